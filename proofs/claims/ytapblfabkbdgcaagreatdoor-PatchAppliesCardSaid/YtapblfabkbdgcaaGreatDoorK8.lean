/- Contracts and plain facts that the closing text leans on (part 8). No condition of their own beyond those that each states. -/
import Derived.Test.YtapblfabkbdgcaaGreatDoorK7
set_option maxRecDepth 100000
set_option linter.unusedVariables false
set_option linter.unusedSimpArgs false
open And renaming intro→Qb
open Bool renaming and_eq_true→Zc,or_false→Xk,or_eq_true→Xx
open Exists renaming intro→Qa
open Int renaming toNat_natCast→Zu
open List renaming getElem?_eq_getElem→Qc,getElem?_map→Qd,length_cons→Qe,length_append→Qf,length_nil→Qh,length_map→Qi,getElem?_append_left→Qj,getElem?_set_ne→Ql,take_length→Qn,mem_cons→Qo,mem_map→Qp,mem_singleton→Qq,getElem?_eq_none→Qr,drop_eq_getElem_cons→Qs,take_append_drop→Qt,getElem?_append_right→Qv,length_pos_iff→Qw,append_nil→Qx,mem_append→Qy,nil_append→Qz,flatMap_cons→Za,mem_of_getElem?→Zb,getD_eq_getElem?_getD→Zd,mem_filter→Ze,getElem?_eq_some_iff→Zf,take_append_getElem→Zg,set_eq_take_append_cons_drop→Zi,not_mem_nil→Zk,getElem_mem→Zl,set_append_right→Zn,length_set→Zp,getElem?_range→Zq,length_reverse→Zr,take_left→Zs,any_cons→Zt,append_assoc→Zv,ext_getElem?→Zw,mem_or_eq_of_mem_set→Zx,map_set→Zy,getElem?_cons_zero→Zz,filter_cons_of_pos→Xa,filter_cons_of_neg→Xb,drop_eq_nil_of_le→Xe,length→Xf,replicate→Xg,mem_of_mem_take→Xh,mem_of_mem_drop→Xi,map_cons→Xj,set_cons_zero→Xl,any_nil→Xo,take_add_one→Xr,nodup_append→Xs,getElem?_set→Xt,cons_append→Xu,drop_length→Xv,range→Xy,range_succ→Xz,map_append→Ya,drop_drop→Yb,map_map→Ye
open List.Nodup renaming sublist→Yi
open List.Sublist renaming append→Yg,filter→Yh,refl→Yj,map→Yk
open List.cons renaming injEq→Xd
open Nat renaming le_refl→Qm,eq_of_beq_eq_true→Qu,add_sub_cancel→Zh,le_of_ble_eq_true→Zm,sub_self→Zo,zero_add→Xm,ble→Xq,mul_le_mul→Yc,le_trans→Yf,blt→Yn
open Option renaming map_some→Xc
open Option.some renaming injEq→Qg,inj→Xw
open Or renaming inl→Xp
open Prod renaming snd→Qk,fst→Yl,ext→Ym
open Prod.mk renaming injEq→Zj
namespace Go.Proofs.YtapblfabkbdgcaaGreatDoor
open Go Go.Av Go.RowKit Go.Proofs Go.Pl
theorem qnk:∀(b:List qq)(k:Nat)(l:qo)(ids:List Int),(ke k b l ids).1≠.no->(ke k b l ids).1.code≠0
 | [],k,l,ids,h=>by simp[ke]at h
 |x::r,k,l,ids,h=>by
  unfold ke at h⊢
  split
  .rename_i he
   rw[if_pos he]at h
   exact qnk r _ _ _ h
  .rename_i he
   exact qlz he
theorem q87{l:qo}{b:List qq}(h:(doF l b).1≠.no):(doF l b).1.code≠0:=by
 unfold doF at h⊢
 split
 .rename_i he
  rw[if_pos he]at h
  exact qnk _ _ _ _ h
 .rename_i he
  exactλh'=>he ((qtr b).1 h')
theorem qep{text:qd}(h:zn text≠.no):(zn text).code≠0:=by
 cases hpe:zn text with
 |no=>exact absurd hpe h
 |num n=>have:=qrd hpe;simp[ErrV.code];omega
 |at' a n=>have:=quc hpe;simpa[ErrV.code]using this
theorem qra{e:ErrV}(h:e≠.no->e.code≠0):okE e:=by
 cases e with
 |no=>trivial
 |num n=>exact h Sx
 |at' a n=>exact h Sx
end Go.Proofs.YtapblfabkbdgcaaGreatDoor
namespace Go.Pl
open Go Go.Proofs
def qag:List EntV->Option (EntV×List EntV)
 | []=>none
 |e::r=>if 0<e.id then some (e,r)else qag r
def stzF(es:List EntV):List (Int×List Fld):=(es.filter λe=>decide (0<e.id)).map λe=>(e.id,e.x.fields)
theorem qq4:∀{r:List EntV},qag r=none->stzF r=[]
 | [],_=>rfl
 |e::r,h=>by
  unfold qag at h
  split at h
  .simp at h
  .rename_i h0
   have:=qq4 h
   simpa[stzF,h0]using this
theorem qq5:∀{r:List EntV}{e:EntV}{q:List EntV},qag r=some (e,q)->0<e.id∧e∈r∧stzF r=(e.id,e.x.fields)::stzF q∧q.length<r.length∧∀y∈q,y∈r
 |x::r,e,q,h=>by
  unfold qag at h
  split at h
  .rename_i h0
   simp only[Qg,Zj]at h
   obtain⟨rfl,rfl⟩:=h
   exact⟨h0,Sx,by simp[stzF,h0],Sx,λy hy=>by simp[hy]⟩
  .rename_i h0
   obtain⟨h1,h2,h3,h4,h5⟩:=qq5 h
   exact⟨h1,by simp[h2],by simpa[stzF,h0]using h3,So,λy hy=>by simp[h5 y hy]⟩
end Go.Pl
namespace Go.Proofs.YtapblfabkbdgcaaGreatDoor
open Go Go.Av Go.RowKit Go.Proofs Go.Pl
theorem zfw{m:Nat}{T:TypeId}{S':List AObj}{cs0:List AV}(h:S'.length=m∨∃cs,S'[m]?=some (.cells 0 T cs)):∃cs,(S'++[AObj.cells 0 T cs0])[m]?=some (.cells 0 T cs):=by
 rcases h with rfl |⟨cs,h⟩
 .exact⟨cs0,Sx⟩
 .exact⟨cs,by rw[Qj (lt_of_getElem? h)];exact h⟩
theorem zfx{m:Nat}{T:TypeId}{S':List AObj}(h:S'.length=m∨∃cs,S'[m]?=some (.cells 0 T cs)):m<=S'.length:=by
 rcases h with rfl |⟨cs,h⟩
 .omega
 .exact Nat.le_of_lt (lt_of_getElem? h)
theorem qsy{L:List (Tmp×AV)}{st:List AObj}{df:List Nat}{s:AS}(h:StA L st df s):StA L (st++[]) df s:=by
 rw[Qx]
 exact h
theorem zbu(l:qo)(o kb n m:Nat)(I:List EntV->List AObj->Prop)(D:List AObj->Prop)(S:List AObj)(hm:S.length=m)(hn:n<=m)(hl:l.ents.length<1000000)(h0:I l.ents S)
  (hI:∀r S',I r S'->S'[kb]?=some (.cells 0 59 [vc l]))
  (hst:∀r S' S'',Ext n S' S''->I r S'->I r S'')
  (hY:∀r e q S' cs,I r S'->S'[m]?=some (.cells 0 109 cs)->qag r=some (e,q)->qbx E o [entA e] S' λb S''=>S''[m]?=some (.cells 0 109 cs)∧(b=true->I q S'')∧(b=false->D S'')):
  ql E 162 [.yd o,.bx kb 0 0] S λr S'=>(∃i,qag i=none∧I i S')∨D S':=by
 refine qy Tryz.func162 rfl (Zm rfl) ?_
 have hb:=hI _ S h0
 have hmi:(l.ents.map entA).length=l.ents.length:=Sx
 repeat' (first|apply qp|apply q8|apply qj|apply qi|apply qm|(apply qh;exact rfl;apply cd_f;exact cRa)|(apply js;(iterate 4 exact rfl))|(apply xh;(iterate 4 exact rfl))|(apply kg;(iterate 3 exact rfl))|(apply wg;exact rfl;exact rfl)|(apply y4;(iterate 3 exact rfl))|apply za|(apply qkt;exact rfl;exact rfl;exact hb;exact rfl;exact rfl))
 refine ko (λ(k:Nat)s=>∃S' r,I r S'∧(S'.length=m∨∃cs,S'[m]?=some (.cells 0 109 cs))∧k<=l.ents.length∧qag r=qag (l.ents.drop k)∧StA [(0,.yd o),(10,.sl 4 (l.ents.map entA) none),(11,Iv l.ents.length),(12,Iv k)] (S'++[]) [] s) (λk=>l.ents.length-k) 0
  ⟨_,_,hst _ _ _ (qgg Om) h0,.inl (by simpa using hm),Om,Sx,qsy (jx ⟨rfl,rfl,congrArg (λn:Nat=>Iv (n:Int)) hmi,rfl,trivial⟩)⟩ ?_
 rintro k _ ⟨S',r,hi,hown,hk,hnx,t,rfl⟩
 have hml:=zfx hown
 by_cases hkn:k<l.ents.length
 .have hx:l.ents[k]?=some l.ents[k]:=Qc hkn
  have hxm:(l.ents.map entA)[k]?=some (entA l.ents[k]):=by rw[Qd,hx];rfl
  rw[Qs hkn,qag]at hnx
  generalize l.ents[k]=e at hx hxm hnx
  obtain⟨cs,hcs⟩:=zfw (cs0:=(entA e).cells) hown
  by_cases he:0<e.id
  .rw[if_pos he]at hnx
   repeat' (first|apply qp|apply q8|apply qj|apply qi|apply qm|(apply qz;(iterate 3 exact rfl))|(apply z6;(iterate 4 exact rfl))|(apply qg3;exact cAo)|(apply qh;exact rfl;apply xc;exact cAo)|(apply wh;exact rfl;exact rfl)|(apply jk;(iterate 3 exact rfl))|(apply kg;(iterate 3 exact rfl))|(apply kw;(iterate 5 exact rfl))|(apply vf;(iterate 11 exact rfl))|apply za|(apply wi (n:=k);(iterate 5 exact rfl);exact hxm))
   apply qiw (o:=o) rfl
   refine qbx.mono (hY r e _ _ cs (hst _ _ _ (qgg Om) hi) hcs hnx) ?_
   rintro b S2 ⟨h1,h2,h3⟩
   show AOps _ _ _ _ _ _ _
   cases b
   .skip
    repeat' (first|apply qi|(apply w6;exact rfl)|(apply z6;(iterate 4 exact rfl))|(apply qg3;exact cAo)|(apply q7;exact rfl;apply qf8;exact cAo)|(apply qh;exact rfl;apply qp1;exact cRa)|apply zg)
    exact qs rfl (qb0 rfl) (.inr (h3 rfl))
   .skip
    repeat' (first|apply qj|apply qi|apply qm|(apply w6;exact rfl)|(apply z6;(iterate 4 exact rfl))|(apply qg3;exact cAo)|(apply q7;exact rfl;apply qf8;exact cAo)|(apply qh;exact rfl;apply q28;exact cRa)|(apply ja;exact rfl;exact rfl;exact zp Om Om)|apply za)
    exact⟨k+1,⟨_,_,h2 rfl,.inr ⟨cs,h1⟩,Om,rfl,qsy (jx ⟨rfl,rfl,rfl,rfl,trivial⟩)⟩,Om⟩
  .rw[if_neg he]at hnx
   repeat' (first|apply qp|apply q8|apply qj|apply qi|apply qm|(apply qz;(iterate 3 exact rfl))|(apply z6;(iterate 4 exact rfl))|(apply qtz;exact cAo)|(apply q7;exact rfl;apply qkb;exact cAo)|(apply qh;exact rfl;apply xc;exact cAo)|(apply qh;exact rfl;apply cd_f;exact cRa)|(apply ja;exact rfl;exact rfl;exact zp Om Om)|(apply wh;exact rfl;exact rfl)|(apply jk;(iterate 3 exact rfl))|(apply kg;(iterate 3 exact rfl))|(apply kw;(iterate 5 exact rfl))|(apply vf;(iterate 11 exact rfl))|apply za|(apply wi (n:=k);(iterate 5 exact rfl);exact hxm))
   exact⟨k+1,⟨_,_,hst _ _ _ (qgg Om) hi,.inr ⟨cs,hcs⟩,Om,hnx,qsy (jx ⟨rfl,rfl,rfl,rfl,trivial⟩)⟩,Om⟩
 .rw[List.drop_of_length_le Om,qag]at hnx
  repeat' (first|apply qp|apply qj|apply qi|(apply qz;(iterate 3 exact rfl))|(apply qh;exact rfl;apply yi;exact cAo)|apply kh)
  exact qs rfl (qb0 rfl) (.inl ⟨r,hnx,hst _ _ _ (qgg Om) hi⟩)
def allY(r:List EntV):Option (SV×List EntV):=(qag r).map λx=>(.a (entA x.1),x.2)
theorem zep(l:qo)(hl:l.ents.length<1000000):ItC 162 59 [vc l] (evY allY) l.ents:=⟨λo kb n m I D S hm hn h0 hI hst hY=>by
 refine(zbu l o kb n m I D S hm hn hl h0 hI hst λr e q S' cs hi hown hx=>?_).mono ?_
 .refine(hY r (entA e) q S' [.cells 0 109 cs] hi (λj y hy=>?_) (by simp[evY,allY,hx,SV.ev])).mono λb S'' ⟨h1,h2,h3⟩=>⟨by have:=h1 0 _ rfl;simpa using this,h2,h3⟩
  match j with
  |0=>
   simp only[Zz,Qg]at hy
   subst hy
   exact⟨hown,yv rfl⟩
  |j+1=>simp at hy
 .rintro r S' (⟨i,h1,h2⟩|h)
  .exact .inl ⟨i,by simp[evY,allY,h1],h2⟩
  .exact .inr h⟩
theorem zfh(l:qo):j9 E 119 [.a (vc l)] 0 (hpF []) ⟨.fn (.func 162) [] [.bx 0 0],jt [],[(0,some (.cells 59 [.a (vc l)]))]++ku [],1⟩:=by
 refine v8 [.a (vc l)] [] 0 (.fn (.func 162) [] [.bx 0 0]) [(0,some (.cells 59 [.a (vc l)]))] 1 Tryz.func119 rfl rfl rfl rfl λS F ρ=>?_
 apply qe [1]
 repeat' (first|apply Qb|(intro h;try exact cDd)|exact cSd|apply qc [1]|refine exr ?_|refine qf ?_)
@[reducible] def stzA (x : Int × List Fld) : AV := .ag [Iv x.1, q6 x.2]
@[reducible] def qkk (s : List (Int × List Fld)) : AV := .sl 2 (s.map stzA) none
theorem qrt(s:List (Int×List Fld)):Pure (qkk s):=y7 λx hx=>by
 obtain⟨f,_,rfl⟩:=Qp.1 hx
 intro y hy
 simp only[AV.cells,Qo,Zk,or_false]at hy
 rcases hy with rfl|rfl
 .exact qt _
 .exact qa8 _
theorem qbc(es:List EntV):(stzF es).length<=es.length:=by
 unfold stzF
 rw[Qi]
 exact List.length_filter_le _ _
theorem qy2{N:Nat}{B:Bs}{C:Conf}{Q:Exit->Conf->Prop}{X:Type}{f:Operand}{p:Tmp}{asg body:Code}(l:qo)(kb n0:Nat)(ks:List Nat)(I:X->Conf)(sl0:List (Nat×SV))(P:List EntV->X->Prop)(D:Code->X->Prop)(x0:X)(h0:P l.ents x0)
  (he:EntA B.n0 C (I x0)) (hz:¬B.dz) (hl:l.ents.length<1000000) (hsl:∀x,(I x).sl=sl0)
  (hf:sval N sl0 f=some (.fn (.func 162) [] [.bx kb 0]))
  (hkb:∀x,lkS (I x).hp kb=some (some (.cells 59 [.a (vc l)])))
  (hr:∀x,qbb n0 ks (I x).sl (I x).hp (I x).nx=true) (h0r:(ksIn n0 ks (I x0).hp&&Xq B.n0 n0)=true)
  (hb:∀r e q x,P r x->qag r=some (e,q)->RA E N n0 asg (λF ρ C1=>RB E N F ρ n0 body (rndQ n0 (P q) D I) C1) ⟨(p,.a (entA e))::(I x).sl,(I x).hp,(I x).nx⟩)
  (hn:∀r x,qag r=none->P r x->Q .normal (I x)) (hd:∀c x,D c x->q3c Q c (I x)):Sm E none N B (.rangeFunc f #[p] asg body) Q C:=by
 refine qn4 (zep l hl) Tryz.call162 (λi v j h=>?_) kb n0 [.a (vc l)] (λ_=>rfl) ks I sl0 P D x0 h0 he hz hsl hf hkb hr h0r (λi x v j hp h=>?_) (λi x h hp=>?_) hd
 .unfold allY at h
  cases hx:qag i with
  |none=>rw[hx]at h;simp at h
  |some y=>
   rw[hx]at h
   simp only[Xc,Qg,Zj]at h
   rw[<-h.1]
   try rfl
 .unfold allY at h
  cases hx:qag i with
  |none=>rw[hx]at h;simp at h
  |some y=>
   rw[hx]at h
   simp only[Xc,Qg,Zj]at h
   obtain⟨h1,h2⟩:=h
   rw[<-h1,<-h2]
   exact hb i y.1 y.2 x hp hx
 .unfold allY at h
  cases hx:qag i with
  |none=>exact hn i x hx hp
  |some y=>rw[hx]at h;simp at h
theorem qq2(l:qo)(st:List AObj)(hl:l.ents.length<1000000)(hI:∀e∈l.ents,e.x.fields.length<1000000):ql E 81 [vc l] st λr st'=>r=qkk (stzF l.ents)∧st'=st:=by
 refine q5 [.a (vc l)] (qrt _) Tryz.func81 rfl rfl (λ_=>rfl) rfl λS0=>?_
 apply qe []
 repeat' (first|apply Qb|(intro h;try exact cDd)|exact⟨Tryz.call119⟩|(refine jf (zfh l) ?_)|exact cSd|apply qc []|refine exr ?_|refine qf ?_)
 refine qy2 (X:=List (Int×List Fld)) l 1 2 [0,1] (λout=>⟨[(3,.bx 0 0),(6,.fn (.func 162) [] [.bx 1 0])],[(0,some (.cells 152 [.tp 2])),(1,some (.cells 59 [.a (vc l)])),(2,some (.tip 2 155 (out.map stzA)))],3⟩) _
  (λr out=>out++stzF r=stzF l.ents∧out.length+r.length<=l.ents.length∧∀y∈r,y∈l.ents) (λ_ _=>False) [] ⟨Sx,Sx,λ_ h=>h⟩ ?_ id hl (λ_=>rfl) rfl (λ_=>rfl) (λ_=>rfl) rfl ?_ ?_ (λ_ _ h=>h.elim)
 .skip
  repeat' (first|apply Qb|(intro h;try exact cDd)|exact cSd|apply qc []|refine exr ?_|refine qf ?_)
 .rintro r e q out ⟨h1,h2,h3⟩ hx
  obtain⟨g1,g2,g3,g4,g5⟩:=qq5 hx
  rw[g3]at h1
  have hcl:=λst=>qa5 e.x.fields st (hI e (h3 e g2))
  have hml:(out.map stzA).length=out.length:=Sx
  refine RA.mk λS F ρ rd=>?_
  apply qe []
  repeat' (first|apply Qb|(intro h;try exact cDd)|(refine RB.mk λS rd=>?_;apply qe [])|exact⟨Tryz.call91⟩|refine cpe hcl ?_|(refine Qa (out++[(e.id,e.x.fields)]) ⟨⟨by rw[<-h1];simp,So,λy hy=>h3 y (g5 y hy)⟩,?_⟩)|exact cSd|apply qc []|refine exr ?_|refine qf ?_)
  all_goals first|(simp[SV.evs,SV.ev];done)|(simp[SV.evs];omega)
 .rintro r out hx ⟨h1,h2,h3⟩
  rw[qq4 hx,Qx]at h1
  rw[<-h1]
  repeat' (first|apply Qb|(intro h;try exact cDd)|exact cSd|apply qc []|refine exr ?_|refine qf ?_)
end Go.Proofs.YtapblfabkbdgcaaGreatDoor
namespace Go.Pl
open Go Go.Proofs
theorem qeu(a b:List EntV):stzF (a++b)=stzF a++stzF b:=by simp[stzF]
theorem qy7(e:EntV):stzF [e]=if 0<e.id then [(e.id,e.x.fields)]else []:=by
 by_cases h:0<e.id<;>simp[stzF,h]
end Go.Pl
namespace Go.Proofs.YtapblfabkbdgcaaGreatDoor
open Go Go.Av Go.RowKit Go.Proofs Go.Pl
theorem qjb(l:qo)(st:List AObj)(hl:l.ents.length<1000000):ql E 98 [jr l] st λr st'=>r=qkk (stzF l.ents)∧st'=st:=by
 refine q5 [.a (jr l)] (qrt _) Tryz.func98 rfl rfl (λ_=>rfl) rfl λS0=>?_
 obtain⟨es,nx,mn⟩:=l
 dsimp only at hl⊢
 have hmi:(es.map entA).length=es.length:=Sx
 apply qe []
 repeat' (first|apply Qb|(intro h;try exact cDd)|exact cSd|apply qc []|refine exr ?_|refine qf ?_)
 refine zl (X:=Nat) (λk=>⟨[(1,.a (.pp [qdb es,Iv nx])),(3,.tp 0),(4,.i k)],[(0,some (.tip 2 155 ((stzF (es.take k)).map stzA)))],1⟩) (λk=>k<=es.length) (λk=>es.length-k) 0 Om ?_ ?_
 .skip
  repeat' (first|apply Qb|(intro h;try exact cDd)|exact cSd|apply qc []|refine exr ?_|refine qf ?_)
  all_goals first|rfl|(simp[stzF];done)|(simp[stzF];rfl)
 .rintro k hk
  by_cases hkn:k<es.length
  .have hx:es[k]?=some es[k]:=Qc hkn
   have hxm:(es.map entA)[k]?=some (entA es[k]):=by rw[Qd,hx];rfl
   have htk:es.take (k+1)=es.take k++[es[k]]:=by rw[Xr,hx];rfl
   have hsl:=qbc (es.take k)
   have hsl2:(es.take k).length<=k:=So
   generalize es[k]=e at hx hxm htk
   by_cases h0:0<e.id
   .have e1:stzF (es.take (k+1))=stzF (es.take k)++[(e.id,e.x.fields)]:=by rw[htk,qeu,qy7,if_pos h0]
    apply qe []
    repeat' (first|apply Qb|(intro h;try exact cDd)|(refine Qa (k) ⟨Om,_,hxm,?_⟩)|(refine Qa (k+1) ⟨Om,Om,?_⟩)|exact cSd|apply qc []|refine exr ?_|refine qf ?_)
    all_goals first|(rw[e1];simp;done)|(simp;omega)
   .have e1:stzF (es.take (k+1))=stzF (es.take k):=by rw[htk,qeu,qy7,if_neg h0,Qx]
    apply qe []
    repeat' (first|apply Qb|(intro h;try exact cDd)|(refine Qa (k) ⟨Om,_,hxm,?_⟩)|(refine Qa (k+1) ⟨Om,Om,?_⟩)|exact cSd|apply qc []|refine exr ?_|refine qf ?_)
    all_goals first|(rw[e1];done)|(simp;omega)
  .have hkn:k=es.length:=by omega
   subst hkn
   rw[Qn]
   apply qe []
   repeat' (first|apply Qb|(intro h;try exact cDd)|exact cSd|apply qc []|refine exr ?_|refine qf ?_)
end Go.Proofs.YtapblfabkbdgcaaGreatDoor
namespace Go.Pl
open Go Go.Proofs Go.Proofs.YtapblfabkbdgcaaGreatDoor
def idsL(es:List EntV):List Int:=(es.filter λe=>decide (0<e.id)).map λe=>e.id
theorem qap(a b:List EntV):idsL (a++b)=idsL a++idsL b:=by simp[idsL]
theorem qdq(e:EntV)(b:List EntV):idsL (e::b)=if 0<e.id then e.id::idsL b else idsL b:=by
 unfold idsL
 by_cases h:0<e.id
 .rw[if_pos h,Xa (by simpa using h)];rfl
 .rw[if_neg h,Xb (by simpa using h)]
theorem qov{es:List EntV}{n:Int}:n∈idsL es↔0<n∧∃e∈es,e.id=n:=by
 unfold idsL
 simp only[Qp,Ze,decide_eq_true_eq]
 constructor
 .rintro⟨e,⟨he,h⟩,rfl⟩
  exact⟨h,e,he,rfl⟩
 .rintro⟨h,e,he,rfl⟩
  exact⟨e,⟨he,h⟩,rfl⟩
structure GN (l:qo):Prop where
 nd:(idsL l.ents).Nodup
 lt:∀e∈l.ents,e.id<l.next
 nx:1<=l.next
theorem q65{l:qo}{x:qx}(h:GN l):GN (vi l x):=by
 obtain⟨h1,h2,h3⟩:=h
 unfold vi
 split
 .refine⟨?_,λe he=>?_,by simp only;omega⟩
  .simp only
   rw[qap,qdq,if_pos (by simp only;omega)]
   refine Xs.2 ⟨h1,by simp[idsL],λa ha b hb=>?_⟩
   obtain⟨_,e,he,rfl⟩:=qov.1 ha
   have:=h2 e he
   simp[idsL]at hb
   omega
  .rcases Qy.1 he with he|he
   .have:=h2 e he;simp only;omega
   .simp only[Qo,Zk,or_false]at he;subst he;simp only;omega
 .refine⟨?_,λe he=>?_,h3⟩
  .simp only
   rw[qap,qdq,if_neg Sx]
   simpa[idsL]using h1
  .rcases Qy.1 he with he|he
   .exact h2 e he
   .simp only[Qo,Zk,or_false]at he;subst he;simp only;omega
theorem qt9:∀(its:List qx)(l:qo),GN l->GN (its.foldl vi l)
 | [],l,h=>h
 |x::r,l,h=>qt9 r (vi l x) (q65 h)
theorem q61(its:List qx):GN (ofF its):=qt9 its ⟨[],1,0⟩ ⟨by simp[idsL],Sx,Sx⟩
theorem q9n{es:List EntV}{i:Nat}{e:EntV}{x:qx}(h:es[i]?=some e):idsL (es.set i ⟨x,e.id⟩)=idsL es:=by
 obtain⟨hlt,rfl⟩:=Zf.1 h
 have e1:=Qt i es
 rw[Qs hlt]at e1
 rw[Zi,if_pos hlt]
 conv=>rhs;rw[<-e1]
 rw[qap,qap,qdq,qdq]
theorem zan{l:qo}(h:GN l)(id:Int)(fs:List Fld):GN (vw l id fs).2:=by
 unfold vw
 split
 .exact h
 .split
  .unfold qe4
   split
   .rename_i e he
    refine⟨by simp only;rw[q9n he];exact h.nd,λy hy=>?_,h.nx⟩
    rcases Zx hy with hy|rfl
    .exact h.lt y hy
    .exact h.lt e (Zb he)
   .exact h
  .exact h
theorem zcc{l:qo}(h:GN l)(id:Int):GN (delF l id).2:=by
 unfold delF
 split
 .exact h
 .generalize(atF l id).toNat=i
  refine⟨?_,λy hy=>?_,h.nx⟩
  .have:=h.nd
   rw[<-Qt i l.ents,qap]at this
   unfold delL
   simp only
   rw[qap]
   refine Yi (Yg (Yj _) ?_) this
   unfold idsL
   refine Yk _ (Yh _ ?_)
   rw[<-Yb]
   exact List.drop_sublist 1 _
  .rcases Qy.1 hy with hy|hy
   .exact h.lt y (Xh hy)
   .exact h.lt y (Xi hy)
theorem zcx{l:qo}(h:GN l)(id:Int)(fs:List Fld):GN (insF l id fs).2.2:=by
 unfold insF
 split
 .exact h
 .split
  .split
   .exact h
   .generalize(atF l id+1).toNat=k
    have hn:=h.nx
    refine⟨?_,λy hy=>?_,by simp only[insL];omega⟩
    .have:=h.nd
     rw[<-Qt k l.ents,qap]at this
     unfold insL
     simp only
     rw[qap,qdq,if_pos (by simp only;omega)]
     refine(List.perm_middle.nodup_iff).2 (List.nodup_cons.2 ⟨λhm=>?_,this⟩)
     rw[<-qap,Qt]at hm
     obtain⟨_,e,he,hen⟩:=qov.1 hm
     have hen:e.id=l.next:=hen
     have:=h.lt e he
     omega
    .show y.id<l.next+1
     rcases Qy.1 hy with hy|hy
     .have:=h.lt y (Xh hy);omega
     .rcases Qo.1 hy with rfl|hy
      .simp only;omega
      .have:=h.lt y (Xi hy);omega
  .exact h
theorem qdx(e:EntV)(b:List EntV):stzF (e::b)=if 0<e.id then(e.id,e.x.fields)::stzF b else stzF b:=by
 unfold stzF
 by_cases h:0<e.id
 .rw[if_pos h,Xa (by simpa using h)];rfl
 .rw[if_neg h,Xb (by simpa using h)]
theorem qfi:∀(es:List EntV)(a b:List (Int×List Fld))(x:Int×List Fld),stzF es=a++x::b->∃A e B,es=A++e::B∧stzF A=a∧stzF B=b∧0<e.id∧x=(e.id,e.x.fields)
 | [],a,b,x,h=>by
  have:stzF []=[]:=rfl
  rw[this]at h
  cases a<;>simp at h
 |e::r,a,b,x,h=>by
  rw[qdx]at h
  by_cases he:0<e.id
  .rw[if_pos he]at h
   cases a with
   |nil=>
    simp only[Qz,Xd]at h
    exact⟨[],e,r,rfl,rfl,h.2,he,h.1.symm⟩
   |cons y a=>
    simp only[Xu,Xd]at h
    obtain⟨A,e',B,rfl,h1,h2,h3,h4⟩:=qfi r a b x h.2
    exact⟨e::A,e',B,rfl,by rw[qdx,if_pos he,h1,h.1],h2,h3,h4⟩
  .rw[if_neg he]at h
   obtain⟨A,e',B,rfl,h1,h2,h3,h4⟩:=qfi r a b x h
   exact⟨e::A,e',B,rfl,by rw[qdx,if_neg he,h1],h2,h3,h4⟩
theorem q1t{id:Int}{e:EntV}{B:List EntV}(he:e.id=id):∀(A:List EntV)(k:Nat),(∀y∈A,y.id≠id)->wv id k (A++e::B)=((k+A.length:Nat):Int)
 | [],k,_=>by
  rw[Qz,wv,if_pos he]
  rfl
 |y::A,k,h=>by
  rw[Xu,wv,if_neg (h y Sx),q1t he A (k+1) λz hz=>h z (by simp[hz])]
  simp only[Qe]
  omega
theorem qob{l:qo}{A B:List EntV}{e:EntV}(h:GN l)(hs:l.ents=A++e::B)(he:0<e.id):atF l e.id=(A.length:Int):=by
 unfold atF
 rw[if_neg Om,hs,q1t rfl A 0 λy hy hh=>?_]
 .simp
 .have hnd:=h.nd
  rw[hs,qap,qdq,if_pos he]at hnd
  have hm:y.id∈idsL A:=qov.2 ⟨Om,y,hy,rfl⟩
  exact(Xs.1 hnd).2.2 _ hm _ Sx hh
theorem zar{l:qo}{a b:List (Int×List Fld)}{id:Int}{f fs:List Fld}(h:GN l)(hs:stzF l.ents=a++(id,f)::b)(hc:zo fs=.no):(vw l id fs).1=.no∧stzF (vw l id fs).2.ents=a++(id,fs)::b∧(vw l id fs).2.next=l.next:=by
 obtain⟨A,e,B,h1,h2,h3,h4,h5⟩:=qfi _ _ _ _ hs
 simp only[Zj]at h5
 obtain⟨rfl,rfl⟩:=h5
 unfold vw
 rw[qob h h1 h4,if_neg Om,if_pos hc,Zu]
 unfold qe4
 have hg:l.ents[A.length]?=some e:=by rw[h1];simp
 rw[hg]
 refine⟨rfl,?_,rfl⟩
 simp only
 rw[h1,Zn _ _ (Qm _),Zo,Xl,qeu,qdx,if_pos h4,h2,h3]
 unfold wd
 rw[if_pos hc]
theorem zcg{l:qo}{a b:List (Int×List Fld)}{id:Int}{f:List Fld}(h:GN l)(hs:stzF l.ents=a++(id,f)::b):(delF l id).1=.no∧stzF (delF l id).2.ents=a++b∧(delF l id).2.next=l.next:=by
 obtain⟨A,e,B,h1,h2,h3,h4,h5⟩:=qfi _ _ _ _ hs
 simp only[Zj]at h5
 obtain⟨rfl,rfl⟩:=h5
 unfold delF
 rw[qob h h1 h4,if_neg Om,Zu]
 refine⟨rfl,?_,rfl⟩
 unfold delL
 simp only
 rw[h1,Zs,show(A++e::B).drop (A.length+1)=B by simp,qeu,h2,h3]
theorem zc1{l:qo}{a b:List (Int×List Fld)}{bh:Int}{fs:List Fld}(h:GN l)(hs:stzF l.ents=a++b)(hb:bh=(a.getLast?.map Yl).getD 0)(hc:zo fs=.no):
  (400<=l.many∧(insF l bh fs).2.1=.num 11)∨((insF l bh fs).2.1=.no∧stzF (insF l bh fs).2.2.ents=a++(l.next,fs)::b∧(insF l bh fs).2.2.next=l.next+1∧(insF l bh fs).1=l.next):=by
 have hn:=h.nx
 have fin:∀A B:List EntV,l.ents=A++B->stzF A=a->stzF B=b->atF l bh+1=(A.length:Int)->(¬(atF l bh<0∧bh≠0))->
   (400<=l.many∧(insF l bh fs).2.1=.num 11)∨((insF l bh fs).2.1=.no∧stzF (insF l bh fs).2.2.ents=a++(l.next,fs)::b∧(insF l bh fs).2.2.next=l.next+1∧(insF l bh fs).1=l.next):=λA B h1 h2 h3 h4 h5=>by
  unfold insF
  rw[if_neg h5,if_pos hc]
  by_cases hm:400<=l.many
  .rw[if_pos hm]
   exact .inl ⟨hm,rfl⟩
  .rw[if_neg hm,h4,Zu]
   refine .inr ⟨rfl,?_,rfl,rfl⟩
   unfold insL
   simp only
   rw[h1,Zs,List.drop_left,qeu,qdx,if_pos (by simp only;omega),h2,h3]
   unfold wd
   rw[if_pos hc]
 rcases List.eq_nil_or_concat a with rfl |⟨a',x,rfl⟩
 .have h0:bh=0:=by simpa using hb
  subst h0
  refine fin [] l.ents rfl rfl (by simpa using hs) ?_ Sx
  unfold atF
  rw[if_pos Om]
  rfl
 .have hx:bh=x.1:=by simpa using hb
  subst hx
  rw[List.concat_eq_append,Zv]at hs
  obtain⟨A,e,B,h1,h2,h3,h4,h5⟩:=qfi _ _ _ _ hs
  subst h5
  have ha:=qob h h1 h4
  refine fin (A++[e]) B (by rw[h1];simp) ?_ h3 (by rw[ha];simp) (by rw[ha];omega)
  rw[qeu,qdx,if_pos h4,h2]
  simp[stzF]
def zq:List Int->List (Int×List Fld)->List (List Fld)->Int->Int->List qq
 | [],_,_,_,_=>[]
 |w::ws,S,R,bh,nx=>
  if w=4 then⟨3,bh,R.headD []⟩::zq ws S R.tail nx (nx+1)
  else if w=3 then⟨2,(S.headD (0,[])).1,[]⟩::zq ws S.tail R bh nx
  else if w=2 then⟨1,(S.headD (0,[])).1,R.headD []⟩::zq ws S.tail R.tail (S.headD (0,[])).1 nx
  else zq ws S.tail R.tail (S.headD (0,[])).1 nx
inductive OkW:List Int->List (Int×List Fld)->List (List Fld)->Prop
 |nil:OkW [] [] []
 |keep {s:Int×List Fld} {S:List (Int×List Fld)} {R:List (List Fld)} {ws:List Int}:OkW ws S R->OkW (1::ws) (s::S) (s.2::R)
 |change {s:Int×List Fld} {r:List Fld} {S:List (Int×List Fld)} {R:List (List Fld)} {ws:List Int}:OkW ws S R->OkW (2::ws) (s::S) (r::R)
 |drop {s:Int×List Fld} {S:List (Int×List Fld)} {R:List (List Fld)} {ws:List Int}:OkW ws S R->OkW (3::ws) (s::S) R
 |add {r:List Fld} {S:List (Int×List Fld)} {R:List (List Fld)} {ws:List Int}:OkW ws S R->OkW (4::ws) S (r::R)
def vv(done:List (Int×List Fld)):Int:=(done.getLast?.map Yl).getD 0
theorem qiq(done:List (Int×List Fld))(x:Int×List Fld):vv (done++[x])=x.1:=by simp[vv]
theorem q7u{ws:List Int}{S:List (Int×List Fld)}{R:List (List Fld)}(h:OkW ws S R):∀(l:qo)(done:List (Int×List Fld))(k:Nat)(ids:List Int),GN l->stzF l.ents=done++S->(∀r∈R,zo r=.no)->
  (∃j,(ke k (zq ws S R (vv done) l.next) l ids).1=.at' j 11)∨((ke k (zq ws S R (vv done) l.next) l ids).1=.no∧(stzF (ke k (zq ws S R (vv done) l.next) l ids).2.1.ents).map Qk=done.map Qk++R):=by
 induction h with
 |nil=>
  intro l done k ids hg hs hc
  refine .inr ⟨rfl,?_⟩
  show(stzF l.ents).map Qk=_
  rw[hs]
  simp
 | @keep s S R ws h ih=>
  intro l done k ids hg hs hc
  have e:zq (1::ws) (s::S) (s.2::R) (vv done) l.next=zq ws S R (vv (done++[s])) l.next:=by
   rw[qiq]
   simp[zq]
  rw[e]
  have:=ih l (done++[s]) k ids hg (by simpa using hs) λr hr=>hc r (by simp[hr])
  simpa using this
 | @change s r S R ws h ih=>
  intro l done k ids hg hs hc
  obtain⟨h1,h2,h3⟩:=zar (fs:=r) hg hs (hc r Sx)
  have e:zq (2::ws) (s::S) (r::R) (vv done) l.next=⟨1,s.1,r⟩::zq ws S R (vv (done++[(s.1,r)])) (vw l s.1 r).2.next:=by
   rw[qiq,h3]
   simp[zq]
  have ho:oneF l ⟨1,s.1,r⟩=(0,vw l s.1 r):=by simp[oneF]
  rw[e,ke,ho]
  simp only
  rw[if_pos h1]
  have:=ih (vw l s.1 r).2 (done++[(s.1,r)]) (k+1) (if(0:Int)<0 then ids++[0]else ids) (zan hg _ _) (by simpa using h2) λr hr=>hc r (by simp[hr])
  simpa using this
 | @drop s S R ws h ih=>
  intro l done k ids hg hs hc
  obtain⟨h1,h2,h3⟩:=zcg hg hs
  have e:zq (3::ws) (s::S) R (vv done) l.next=⟨2,s.1,[]⟩::zq ws S R (vv done) (delF l s.1).2.next:=by
   rw[h3]
   simp[zq]
  have ho:oneF l ⟨2,s.1,[]⟩=(0,delF l s.1):=by simp[oneF]
  rw[e,ke,ho]
  simp only
  rw[if_pos h1]
  have:=ih (delF l s.1).2 done (k+1) (if(0:Int)<0 then ids++[0]else ids) (zcc hg _) h2 hc
  simpa using this
 | @add r S R ws h ih=>
  intro l done k ids hg hs hc
  have ho:oneF l ⟨3,vv done,r⟩=insF l (vv done) r:=by simp[oneF]
  have e0:zq (4::ws) S (r::R) (vv done) l.next=⟨3,vv done,r⟩::zq ws S R l.next (l.next+1):=by simp[zq]
  rw[e0,ke,ho]
  rcases zc1 (fs:=r) hg hs rfl (hc r Sx)with⟨_,h1⟩|⟨h1,h2,h3,h4⟩
  .have hi:(insF l (vv done) r).2.1=.num 11:=h1
   rw[hi,if_neg Sx]
   exact .inl ⟨k,rfl⟩
  .have h1:(insF l (vv done) r).2.1=.no:=h1
   have h2:stzF (insF l (vv done) r).2.2.ents=done++(l.next,r)::S:=h2
   have h3:(insF l (vv done) r).2.2.next=l.next+1:=h3
   rw[h1,if_pos rfl]
   have e:zq ws S R l.next (l.next+1)=zq ws S R (vv (done++[(l.next,r)])) (insF l (vv done) r).2.2.next:=by rw[qiq,h3]
   rw[e]
   have:=ih (insF l (vv done) r).2.2 (done++[(l.next,r)]) (k+1) (if 0<(insF l (vv done) r).1 then ids++[(insF l (vv done) r).1]else ids) (zcx hg _ _) (by simpa using h2) λr hr=>hc r (by simp[hr])
   simpa using this
theorem qms{ws t:List Int}{S S2:List (Int×List Fld)}{R R2:List (List Fld)}(h:OkW ws S R)(h2:OkW t S2 R2):OkW (ws++t) (S++S2) (R++R2):=by
 induction h with
 |nil=>exact h2
 |keep _ ih=>exact .keep ih
 |change _ ih=>exact .change ih
 |drop _ ih=>exact .drop ih
 |add _ ih=>exact .add ih
theorem qhj(S:List (Int×List Fld))(R:List (List Fld)):∀(n i j:Nat),i<=S.length->j<=R.length->i+j<=n->OkW (wayB (S.map Qk) R n i j).reverse (S.take i) (R.take j)
 |0,i,j,hi,hj,h=>by
  obtain⟨rfl,rfl⟩:i=0∧j=0:=Om
  exact .nil
 |n+1,i,j,hi,hj,h=>by
  rw[wayB]
  by_cases h0:i=0∧j=0
  .obtain⟨rfl,rfl⟩:=h0
   rw[if_pos ⟨rfl,rfl⟩]
   exact .nil
  .rw[if_neg h0]
   have hl:=qlo (S.map Qk) R i j
   have hr:=qjy (S.map Qk) R i j h0
   have htS:0<i->∃s,S.take i=S.take (i-1)++[s]∧S[i-1]?=some s:=λhp=>by
    have hlt:i-1<S.length:=Om
    refine⟨S[i-1],?_,Qc hlt⟩
    rw[Zg hlt,show i-1+1=i by omega]
   have htR:0<j->∃r,R.take j=R.take (j-1)++[r]∧R[j-1]?=some r:=λhp=>by
    have hlt:j-1<R.length:=Om
    refine⟨R[j-1],?_,Qc hlt⟩
    rw[Zg hlt,show j-1+1=j by omega]
   rw[List.reverse_cons]
   have hv:=qlp (S.map Qk) R i j
   by_cases w4:wj (S.map Qk) R i j=4
   .have hj0:=hr Om
    obtain⟨r,e1,_⟩:=htR hj0
    rw[if_pos w4,if_neg Om,w4,e1]
    have:=qms (qhj S R n i (j-1) hi Om Om) (OkW.add (r:=r) .nil)
    simpa using this
   .have hi0:=hl w4
    obtain⟨s,e1,e3⟩:=htS hi0
    by_cases w3:wj (S.map Qk) R i j=3
    .rw[if_neg w4,if_pos w3,w3,e1]
     have:=qms (qhj S R n (i-1) j Om hj Om) (OkW.drop (s:=s) .nil)
     simpa using this
    .have hj0:=hr w3
     obtain⟨r,e2,e4⟩:=htR hj0
     rw[if_neg w4,if_neg w3,e1,e2]
     by_cases w2:wj (S.map Qk) R i j=2
     .rw[w2]
      exact qms (qhj S R n (i-1) (j-1) Om Om Om) (OkW.change (s:=s) (r:=r) .nil)
     .have w1:wj (S.map Qk) R i j=1:=by omega
      have hk:(S.map Qk)[i-1]?=R[j-1]?:=by
       unfold wj at w1
       split at w1
       .rename_i hh;exact hh.2.2.1
       .split at w1
        .omega
        .split at w1<;>omega
      rw[Qd,e3,e4]at hk
      simp only[Xc,Qg]at hk
      subst hk
      rw[w1]
      exact qms (qhj S R n (i-1) (j-1) Om Om Om) (OkW.keep (s:=s) .nil)
theorem qm3(S:List (Int×List Fld))(R:List (List Fld)):OkW (wayF (S.map Qk) R) S R:=by
 have:=qhj S R (S.length+R.length) S.length R.length (Qm _) (Qm _) (Qm _)
 rw[Qn,Qn]at this
 unfold wayF
 rw[Qi]
 exact this
theorem q29{fs:List Fld}(h:GF fs)(hne:fs≠[]):zo fs=.no:=by
 unfold zo
 rw[if_neg hne,if_neg (by have:=h.1;omega)]
 have:=qnf 0 fs [] λx hx=>(qan x).2 (h.2 x hx)
 rw[Qx]at this
 rw[this]
 rfl
theorem q0d{x:qx}(h:xp x)(hk:x.kind=3):zo x.fields=.no:=by
 have hp:=qyd (its:=[x]) (by simpa using h) (by simp[cntI,hk])
 have ha:wn [x]=[x]:=by simp[wn,je]
 have hm:=q0n (zw (wn [x])) x (by rw[hp,ha];simp)
 exact q29 hm.1 (hm.2.1 hk)
theorem q76{l:qo}(h:GL l):∀r∈(stzF l.ents).map Qk,zo r=.no:=λr hr=>by
 unfold stzF at hr
 simp only[Ye,Qp,Ze,decide_eq_true_eq]at hr
 obtain⟨e,⟨he,h0⟩,rfl⟩:=hr
 exact q0d (h.ok e he).1 ((h.ok e he).2.1 h0)
theorem qqa:∀(b:List qq)(k:Nat),(∀x∈b,gErr x=.no)->xz k b=.no
 | [],_,_=>rfl
 |x::r,k,h=>by
  rw[xz,if_pos (by rw[h x Sx];rfl),qqa r (k+1) λy hy=>h y (by simp[hy])]
theorem qn3{ws:List Int}{S:List (Int×List Fld)}{R:List (List Fld)}(h:OkW ws S R):∀(bh nx:Int),(∀r∈R,zo r=.no)->∀x∈zq ws S R bh nx,gErr x=.no:=by
 induction h with
 |nil=>intro bh nx hc x hx;simp[zq]at hx
 | @keep s S R ws h ih=>
  intro bh nx hc x hx
  have e:zq (1::ws) (s::S) (s.2::R) bh nx=zq ws S R s.1 nx:=by simp[zq]
  rw[e]at hx
  exact ih _ _ (λr hr=>hc r (by simp[hr])) x hx
 | @change s r S R ws h ih=>
  intro bh nx hc x hx
  have e:zq (2::ws) (s::S) (r::R) bh nx=⟨1,s.1,r⟩::zq ws S R s.1 nx:=by simp[zq]
  rw[e]at hx
  rcases Qo.1 hx with rfl|hx
  .simpa[gErr]using hc r Sx
  .exact ih _ _ (λr hr=>hc r (by simp[hr])) x hx
 | @drop s S R ws h ih=>
  intro bh nx hc x hx
  have e:zq (3::ws) (s::S) R bh nx=⟨2,s.1,[]⟩::zq ws S R bh nx:=by simp[zq]
  rw[e]at hx
  rcases Qo.1 hx with rfl|hx
  .simp[gErr]
  .exact ih _ _ hc x hx
 | @add r S R ws h ih=>
  intro bh nx hc x hx
  have e:zq (4::ws) S (r::R) bh nx=⟨3,bh,r⟩::zq ws S R nx (nx+1):=by simp[zq]
  rw[e]at hx
  rcases Qo.1 hx with rfl|hx
  .simpa[gErr]using hc r Sx
  .exact ih _ _ (λr hr=>hc r (by simp[hr])) x hx
def km(l:qo)(R:List (List Fld)):List qq:=zq (wayF ((stzF l.ents).map Qk) R) (stzF l.ents) R 0 l.next
def jp(l:qo)(b:List qq):ErrV×qo:=if b=[]then(.no,l)else((doF l b).1,(doF l b).2.1)
theorem q56{l:qo}{R:List (List Fld)}(h:GN l)(hc:∀r∈R,zo r=.no)(h40:(km l R).length<=40):
  (∃j,(jp l (km l R)).1=.at' j 11)∨((jp l (km l R)).1=.no∧(stzF (jp l (km l R)).2.ents).map Qk=R):=by
 have hw:=qm3 (stzF l.ents) R
 have hs:=q7u hw l [] 0 [] h rfl hc
 have hg:=qn3 hw 0 l.next hc
 have hl:vv []=0:=rfl
 rw[hl]at hs
 unfold jp
 by_cases hb:km l R=[]
 .rw[if_pos hb]
  unfold km at hb
  rw[hb]at hs
  rcases hs with⟨j,hs⟩|⟨_,hs⟩
  .simp[ke]at hs
  .exact .inr ⟨rfl,by simpa[ke]using hs⟩
 .rw[if_neg hb]
  have he:eErr (km l R)=.no:=by
   have:=Qw.2 hb
   unfold eErr
   rw[if_neg Om]
   exact qqa _ 0 hg
  unfold doF
  rw[if_pos he]
  simpa[km]using hs
def runT(text:qd):RunV:=(zgm (zbg text).2.base (zbg text).2.batches).2
end Go.Pl
namespace Go.Pl
open Go Go.Proofs Go.Av Go.Proofs.YtapblfabkbdgcaaGreatDoor
def dupS(key:qd)(pre:List (Int×List Fld))(x:Int×List Fld):Bool:=(qma key x.2).any λv=>pre.any λy=>decide (v∈qma key y.2)
def q8z(r:qbp)(pre:List (Int×List Fld))(x:Int×List Fld):Prop:=x.2.any (badR r)=true∨(r.kind=1∧cntR r x.2=0)∨(r.kind=2∧1<cntR r x.2)∨(r.kind=7∧dupS r.key pre x=true)
instance (r:qbp)(pre:List (Int×List Fld))(x:Int×List Fld):Decidable (q8z r pre x):=inferInstanceAs (Decidable (_∨(_∧_)∨(_∧_)∨(_∧_)))
end Go.Pl
namespace Go.Proofs.YtapblfabkbdgcaaGreatDoor
open Go Go.Av Go.RowKit Go.Proofs Go.Pl
theorem q52(fs:List Fld)(st:List AObj)(hl:fs.length<1000000):ql E 48 [q6 fs] st λr st'=>r=q6 fs∧st'=st:=by
 refine q5 [.a (q6 fs)] (qa8 _) Tryz.func48 rfl rfl (λ_=>rfl) rfl λS0=>?_
 have hml:(fs.map fldA).length=fs.length:=Sx
 apply qe [3]
 repeat' (first|apply Qb|(intro h;try exact cDd)|exact cSd|apply qc [3]|refine exr ?_|refine qf ?_)
theorem zfv(b:List qq)(st:List AObj)(hl:b.length<1000000)(hf:∀x∈b,x.fields.length<1000000):ql E 24 [ji b] st λr st'=>r=ji b∧st'=st:=by
 refine q5 [.a (ji b)] (qcz _) Tryz.func24 rfl rfl (λ_=>rfl) rfl λS0=>?_
 have hml:(b.map j6).length=b.length:=Sx
 apply qe [6]
 repeat' (first|apply Qb|(intro h;try exact cDd)|exact cSd|apply qc [6]|refine exr ?_|refine qf ?_)
 refine zl (X:=Nat) (λk=>⟨[(3,.tp 0),(7,.a (ji b)),(8,.i (b.map j6).length),(9,.i k)],[(0,some (.tip 3 55 ((b.take k).map j6)))],1⟩) (λk=>k<=b.length) (λk=>b.length-k) 0 Om ?_ ?_
 .skip
  repeat' (first|apply Qb|(intro h;try exact cDd)|exact cSd|apply qc []|refine exr ?_|refine qf ?_)
  all_goals (simp;done)
 .rintro k hk
  by_cases hc:k<b.length
  .obtain⟨y,hy⟩:∃y,b[k]?=some y:=⟨_,Qc hc⟩
   have hget:=qhz hy
   have hcp:=λst=>q52 y.fields st (hf y (Zb hy))
   have htk:b.take (k+1)=b.take k++[y]:=by
    obtain⟨_,rfl⟩:=Zf.1 hy
    rw[Zg]
   have htl:((b.take k).map j6).length=k:=So
   apply qe [5,22]
   repeat' (first|apply Qb|(intro h;try exact cDd)|(refine Qa (k) ⟨Om,_,hget,?_⟩)|exact⟨Tryz.call48⟩|refine cpe hcp ?_|(refine Qa (k+1) ⟨Om,Om,?_⟩)|exact cSd|apply qc [5,22]|refine exr ?_|refine qf ?_)
   all_goals first|(rw[htk];simp[SV.evs,SV.ev,j6];done)|(simp[SV.evs];omega)
  .rw[List.take_of_length_le Om]
   apply qe []
   repeat' (first|apply Qb|(intro h;try exact cDd)|exact cSd|apply qc []|refine exr ?_|refine qf ?_)
theorem qz4(b:List qq)(st:List AObj)(hl:b.length<1000000)(hf:∀x∈b,x.fields.length<1000000):ql E 32 [ji b,ji b] st λr st'=>r=Bv true∧st'=st:=by
 refine q5 [.a (ji b),.a (ji b)] (qt _) Tryz.func32 rfl rfl (λ_=>rfl) rfl λS0=>?_
 have hmi:(b.map j6).length=b.length:=Sx
 apply qe []
 repeat' (first|apply Qb|(intro h;try exact cDd)|exact cSd|apply qc []|refine exr ?_|refine qf ?_)
 refine zl (X:=Nat) (λk=>⟨[(0,.a (ji b)),(1,.a (ji b)),(12,.i (b.map j6).length),(13,.i k)],[],0⟩) (λk=>k<=b.length) (λk=>b.length-k) 0 Om ?_ ?_
 .skip
  repeat' (first|apply Qb|(intro h;try exact cDd)|exact cSd|apply qc []|refine exr ?_|refine qf ?_)
 .rintro k hk
  by_cases hkn:k<b.length
  .obtain⟨y,hy⟩:∃y,b[k]?=some y:=⟨_,Qc hkn⟩
   have hget:=qhz hy
   have hxf:=hf y (Zb hy)
   have hfe:=λst=>q6g y.fields y.fields st Om
   rw[decide_eq_true rfl]at hfe
   apply qe []
   repeat' (first|apply Qb|(intro h;try exact cDd)|(refine Qa (k) ⟨Om,_,hget,?_⟩)|exact⟨Tryz.call58⟩|refine cpe hfe ?_|(refine Qa (k+1) ⟨Om,Om,?_⟩)|exact cSd|apply qc []|refine exr ?_|refine qf ?_)
  .apply qe []
   repeat' (first|apply Qb|(intro h;try exact cDd)|exact cSd|apply qc []|refine exr ?_|refine qf ?_)
end Go.Proofs.YtapblfabkbdgcaaGreatDoor
namespace Go.Pl
open Go
def i64(n:Int):Prop:= -9223372036854775808<=n∧n<=9223372036854775807
end Go.Pl
namespace Go.Pl
open Go Go.Proofs Go.Proofs.YtapblfabkbdgcaaGreatDoor
theorem q6k(p:qd):∀ls:List (qd×Bool),lsum ls<=(indF p ls).length
 | []=>by simp[lsum]
 |x::r=>by
  have ih:=q6k p r
  unfold lsum indF at ih⊢
  simp only[Xj,List.sum_cons,Za,Qf]
  omega
theorem ze8(x:qq):(zu x.fields).length<=(qc0 x).length:=by
 have h1:=q6k [32,32] (zy (zu x.fields))
 rw[(qls _ _ (Qm _)).1]at h1
 unfold qc0 qgi
 simp only[Qf]
 omega
def wE(es:List EntV):Nat:=(es.map λe=>e.x.raw.length).sum
theorem qry(a b:List EntV):wE (a++b)=wE a+wE b:=by simp[wE]
theorem qs3(e:EntV)(b:List EntV):wE (e::b)=e.x.raw.length+wE b:=by simp[wE]
theorem qrz(es:List EntV)(i:Nat):wE es=wE (es.take i)+wE (es.drop i):=by rw[<-qry,Qt]
theorem q2k(es:List EntV)(i:Nat):wE (es.drop (i+1))<=wE (es.drop i):=by
 have:=qrz (es.drop i) 1
 rw[Yb]at this
 omega
theorem q2l:∀es:List EntV,(zw (es.map λe=>e.x)).length=wE es
 | []=>by simp[zw,wE]
 |e::r=>by
  have ih:=q2l r
  rw[qs3,Xj]
  unfold zw at ih⊢
  rw[Za,Qf,ih]
theorem zdw(fs:List Fld):(wd fs).raw.length<=(zu fs).length:=by
 unfold wd
 split
 .exact Qm _
 .simp
theorem zft(l:qo)(x:qq):wE (oneF l x).2.2.ents<=wE l.ents+(zu x.fields).length:=by
 have hp:=zdw x.fields
 unfold oneF
 split
 .unfold vw
  split
  .simp only;omega
  .split
   .unfold qe4
    split
    .rename_i e he
     obtain⟨hlt,_⟩:=Zf.1 he
     simp only
     rw[Zi,if_pos hlt,qry,qs3]
     have h1:=qrz l.ents (atF l x.id).toNat
     have h2:=q2k l.ents (atF l x.id).toNat
     simp only
     omega
    .simp only;omega
   .simp only;omega
 .split
  .unfold delF
   split
   .simp only;omega
   .unfold delL
    simp only
    rw[qry]
    have h1:=qrz l.ents (atF l x.id).toNat
    have h2:=q2k l.ents (atF l x.id).toNat
    omega
  .unfold insF
   split
   .simp only;omega
   .split
    .split
     .simp only;omega
     .unfold insL
      simp only
      rw[qry,qs3]
      have h1:=qrz l.ents (atF l x.id+1).toNat
      simp only
      omega
    .simp only;omega
theorem qww:∀(b:List qq)(k:Nat)(l:qo)(ids:List Int),wE (ke k b l ids).2.1.ents<=wE l.ents+(encF b).length
 | [],k,l,ids=>by simp[ke]
 |x::r,k,l,ids=>by
  have h1:=zft l x
  have h2:=ze8 x
  have h3:(encF (x::r)).length=(qc0 x).length+(encF r).length:=by simp[encF]
  unfold ke
  split
  .have:=qww r (k+1) (oneF l x).2.2 (if 0<(oneF l x).1 then ids++[(oneF l x).1]else ids)
   omega
  .simp only;omega
theorem zgh(l:qo)(b:List qq):wE (doF l b).2.1.ents<=wE l.ents+(encF b).length:=by
 unfold doF
 split
 .exact qww b 0 l []
 .simp only;omega
theorem q92(l:qo)(x:qx):wE (vi l x).ents=wE l.ents+x.raw.length:=by
 unfold vi
 split <;>simp[wE]
theorem qx4:∀(its:List qx)(l:qo),wE (its.foldl vi l).ents=wE l.ents+(zw its).length
 | [],l=>by simp[zw]
 |x::r,l=>by
  rw[List.foldl_cons,qx4 r,q92]
  have:(zw (x::r)).length=x.raw.length+(zw r).length:=by simp[zw]
  omega
theorem zfg(text:qd):(zw (itsE text)).length<=2*text.length:=by
 unfold itsE
 split
 .simp[zw]
 .have h:=q2f text.length text 0 0 p0 (Qm _) qvs ⟨by simp[p0,zw,zb],by simp[p0]⟩ Om
  unfold jq
  split
  .simp[zw]
  .have:=h.tot
   simp only
   omega
theorem q1b:∀(its:List qx)(p:Bool),(zw (je p its)).length<=(zw its).length+its.length
 | [],p=>by simp[je,zw]
 |x::r,p=>by
  have ih:=q1b r (decide (x.kind≠1))
  unfold zw at ih⊢
  rw[je,List.flatMap_append,Qf,Za,Qf,Qe]
  have h:((if p=true∧x.kind≠1 then [⟨1,[10],[]⟩,x]else [x]:List qx).flatMap λx=>x.raw).length<=x.raw.length+1:=by split <;>simp
  omega
theorem q6m:∀its:List qx,(∀x∈its,xp x)->its.length<=(zw its).length
 | [],_=>by simp
 |x::r,h=>by
  have ih:=q6m r λy hy=>h y (by simp[hy])
  have hx:0<x.raw.length:=by
   rcases qio (h x Sx)with⟨_,t,rfl,_⟩|⟨_,h1,_⟩
   .simp
   .exact Qw.2 h1
  unfold zw at ih⊢
  rw[Za,Qf,Qe]
  omega
theorem zeh{l:qo}(h:GL l):(xd l).length<=2*wE l.ents:=by
 have h1:=q1b (zm l) false
 have h2:=q6m (zm l) λx hx=>by
  obtain⟨e,he,rfl⟩:=Qp.1 hx
  exact(h.ok e he).1
 have h3:=q2l l.ents
 unfold xd wn
 unfold zm at *
 omega
end Go.Pl
namespace Go.Av
open Go Go.RowKit
section
variable {B0 : Nat} {w0 : World} {G : Gh} {st : List AObj} {w : World}
theorem q9.recell(h:q9 B0 w0 G st w){o ver:Nat}{T:TypeId}{cs cs':List AV}(ho:st[o]?=some (.cells ver T cs))(hl:cs'.length=cs.length)
  (hr:∀(i:Nat)(x x':AV)(v:Value),cs[i]?=some x->cs'[i]?=some x'->Rel G x v->Rel G x' v):q9 B0 w0 G (st.set o (.cells ver T cs')) w:=by
 obtain⟨h0,h1,h2,h3,c,h4,h5,h6⟩:=h.ob o _ ho
 refine⟨h.below,h.hB,by simp[h.n],h.pub,λk x hx=>?_,λk k' x x' hne hx hx' hl1 hl2=>?_⟩
 .rcases getElem?_set' _ _ _ _ _ hx with⟨rfl,rfl⟩|⟨hne,hx⟩
  .refine⟨h0,h1,h2,h3,c,h4,Om,λi x y hx hy=>?_⟩
   have hi:i<cs.length:=by have:=lt_of_getElem? hx;omega
   exact hr i _ x y (Qc hi) hx (h6 i _ y (Qc hi) hy)
  .exact h.ob k x hx
 .rcases getElem?_set' _ _ _ _ _ hx with⟨e1,e2⟩|⟨_,e2⟩
  .rcases getElem?_set' _ _ _ _ _ hx' with⟨e3,_⟩|⟨_,e4⟩
   .exact absurd (e1.trans e3.symm) hne
   .rw[e1];exact h.sep o k' _ x' (λe=>hne (e1.trans e)) ho e4 trivial hl2
  .rcases getElem?_set' _ _ _ _ _ hx' with⟨e3,_⟩|⟨_,e4⟩
   .rw[e3];exact h.sep k o x _ (λe=>hne (e.trans e3.symm)) e2 ho hl1 trivial
   .exact h.sep k k' x x' hne e2 e4 hl1 hl2
end
theorem qy8{α:Type}{A B:List α}{x x' u u':α}{i:Nat}(h:(A++x::B)[i]?=some u)(h':(A++x'::B)[i]?=some u'):u=u'∨(u=x∧u'=x'):=by
 rcases Nat.lt_trichotomy i A.length with hi|hi|hi
 .rw[Qj hi]at h h'
  rw[h]at h'
  exact .inl (Xw h')
 .subst hi
  rw[Qv (Qm _),Zo]at h h'
  simp at h h'
  exact .inr ⟨h.symm,h'.symm⟩
 .obtain⟨j,hj⟩:∃j,i-A.length=j+1:=⟨i-A.length-1,Om⟩
  rw[Qv Om,hj,List.getElem?_cons_succ]at h h'
  rw[h]at h'
  exact .inl (Xw h')
theorem qqh(ρ:Nat->AV)(a b:List SV):SV.evs ρ (a++b)=SV.evs ρ a++SV.evs ρ b:=by simp[jo]
theorem q9k{xs:List AV}(h:∀x∈xs,x.one=true):flat xs=xs:=by
 unfold flat
 induction xs with
 |nil=>rfl
 |cons a r ih=>rw[Za,ih λx hx=>h x (by simp[hx]),qds (h a Sx)];rfl
theorem zav{E:Env}{rd:Option Nat}{N:Nat}{B:Bs}{c:Code}{Q:Exit->Conf->Prop}{C:Conf}{b r sz:Nat}{T T2:TypeId}{zs:List AV}{ys:List AV}(hb:hpF C.hp b=some (.rows T zs [.tp r]))(hr:hpF C.hp r=some (.own sz T2 ys))(hy:ys≠[])
  (h:Sm E rd N B c Q ⟨C.sl,(b,some (.rows T (zs++[.sl sz ys none]) []))::(r,none)::C.hp,C.nx⟩):Sm E rd N B c Q C:=⟨λs hs=>by
 obtain⟨t,S,df⟩:=s
 obtain⟨ρ,hF,hR⟩:=hs
 simp only at hF hR
 have hbr:b≠r:=λe=>by subst e;rw[hb]at hr;simp at hr
 rcases hR.hp.ok r _ hr with⟨e,_⟩|⟨o,ver,cap,pad,f1,f2,f3,f4,f5,f6⟩
 .exact absurd e hy
 rcases hR.hp.ok b _ hb with⟨e,_⟩|⟨o2,ver2,cap2,pad2,g1,g2,g3,g4,g5,g6⟩
 .simp[SV.evs]at e
 have htr:tpAt (ρ r)=ρ r:=by rw[f1];rfl
 have hev:zs++SV.evs ρ [.tp r]=zs++[ρ r]:=by simp[SV.evs,SV.ev,htr]
 have hev2:(zs++[.sl sz ys none])++SV.evs ρ []=zs++[.sl sz ys none]:=by simp[SV.evs]
 rw[hev]at g1 g2 g3 g4 g5
 have hfa:flat (zs++[ρ r])++pad2=flat (zs)++ρ r::pad2:=by rw[va,f1];simp[flat,AV.cells]
 have hfb:flat (zs++[.sl sz ys none])++pad2=flat (zs)++ .sl sz ys none::pad2:=by rw[va];simp[flat,AV.cells]
 have hoo:o≠o2:=λe=>hR.hp.sep r b _ _ (λe=>hbr e.symm) hr hb o (by rw[f1];rfl) (by rw[g1,e];rfl)
 have hget:∀k x,hpF ((b,some (.rows T (zs++[.sl sz ys none]) []))::(r,none)::C.hp) k=some x->(k=b∧x=.rows T (zs++[.sl sz ys none]) [])∨(k≠b∧k≠r∧hpF C.hp k=some x):=λk x hk=>by
  unfold hpF at hk⊢
  simp only[lkS]at hk
  by_cases e:b=k
  .subst e
   simp at hk
   exact .inl ⟨rfl,hk.symm⟩
  .rw[zz e]at hk
   by_cases e2:r=k
   .subst e2;simp at hk
   .rw[zz e2]at hk
    exact .inr ⟨λh=>e h.symm,λh=>e2 h.symm,hk⟩
 have hlo:∀k x,k≠b->k≠r->hpF C.hp k=some x->∀j,ze (ρ k)=some j->o≠j∧o2≠j:=λk x h1 h2 hk j hj=>
  ⟨λe=>hR.hp.sep k r _ _ h2 hk hr j hj (by rw[f1,<-e];rfl),λe=>hR.hp.sep k b _ _ h1 hk hb j hj (by rw[g1,<-e];rfl)⟩
 have hset:∀j,o≠j->o2≠j->((S.set o .dead).set o2 (.cells ver2 T (flat (zs++[.sl sz ys none])++pad2)))[j]?=S[j]?:=λj h1 h2=>by rw[Ql h2,Ql h1]
 have g2':(S.set o .dead)[o2]?=some (.cells ver2 T (flat (zs++[ρ r])++pad2)):=(Ql hoo).trans g2
 have hP:SatR B.S0 B.F ⟨C.sl,(b,some (.rows T (zs++[.sl sz ys none]) []))::(r,none)::C.hp,C.nx⟩ ρ t ((S.set o .dead).set o2 (.cells ver2 T (flat (zs++[.sl sz ys none])++pad2))):=by
  refine⟨hR.sl,⟨λk x hk=>?_,λk k' x x' hne hk hk'=>?_⟩,λk x hk j hj=>?_,λj hj hFj=>?_,by simpa using hR.len,hR.wsl,λk x hk=>?_⟩
  .rcases hget k x hk with⟨rfl,rfl⟩|⟨n1,n2,hk⟩
   .show OwnS _ 1 T ((zs++[.sl sz ys none])++SV.evs ρ []) (ρ k)
    rw[hev2]
    refine .inr ⟨o2,ver2,cap2,pad2,by rw[g1];simp,wc g2',?_,λy hy=>?_,by simpa using g5,g6⟩
    .rw[hfb]
     rw[hfa]at g3
     simpa using g3
    .rcases Qy.1 hy with h|h
     .exact g4 y (by simp[h])
     .simp only[Qq]at h
      subst h
      rfl
   .refine SR.ok_of (f:=λ_=>true) (SR.all_mono (λ_ _=>rfl) x (hR.whp k x hk).2) (λ_ _=>rfl) (hR.hp.ok k x hk) λj hj=>?_
    obtain⟨q1,q2⟩:=hlo k x n1 n2 hk j hj
    exact hset j q1 q2
  .rcases hget k x hk with⟨rfl,rfl⟩|⟨n1,n2,q1⟩
   .rcases hget k' x' hk' with⟨rfl,rfl⟩|⟨m1,m2,q2⟩
    .exact absurd rfl hne
    .exact hR.hp.sep _ _ _ _ hne hb q2
   .rcases hget k' x' hk' with⟨rfl,rfl⟩|⟨m1,m2,q2⟩
    .exact hR.hp.sep _ _ _ _ hne q1 hb
    .exact hR.hp.sep _ _ _ _ hne q1 q2
  .rcases hget k x hk with⟨rfl,rfl⟩|⟨n1,n2,hk⟩
   .exact hR.own _ _ hb j hj
   .exact hR.own _ _ hk j hj
  .refine(hset j (λe=>?_) (λe=>?_)).trans (hR.low j hj hFj)
   .rcases hR.own r _ hr o (by rw[f1];rfl)with q|q
    .omega
    .exact hFj (e▸q)
   .rcases hR.own b _ hb o2 (by rw[g1];rfl)with q|q
    .omega
    .exact hFj (e▸q)
  .rcases hget k x hk with⟨rfl,rfl⟩|⟨n1,n2,hk⟩
   .exact⟨(hR.whp _ _ hb).1,rfl⟩
   .exact hR.whp k x hk
 have hr2:=h.run ⟨t,(S.set o .dead).set o2 (.cells ver2 T (flat (zs++[.sl sz ys none])++pad2)),df⟩ ⟨ρ,⟨λx hx=>?_,hF.nd,hF.rig,hF.le,hF.dz⟩,hP⟩
 .exact⟨λB0 w0 G a w hL hI=>by
   obtain⟨vs,hle,hA,hv,hp,hl2,hrl⟩:=hI.agree.pubOb f2
   have hA2:=hA.recell (cs':=flat (zs++[.sl sz ys none])++pad2) g2' (by rw[hfa,hfb];simp) λi x x' v hx hx' hv2=>by
    rw[hfa]at hx
    rw[hfb]at hx'
    rcases qy8 hx hx' with rfl |⟨rfl,rfl⟩
    .exact hv2
    .rw[f1]at hv2
     cases hv2 with
     |os _ _ _ _ bl _ hn hv' hbl=>
      have hbl:=hbl hv
      subst hbl
      exact .sl sz ys none _ 0 (cap+1) vs hp f4 (by rw[<-hl2];simp) (λk x y g1 g2=>hrl k x y (by rw[Qj (lt_of_getElem? g1)];exact g1) (by simpa using g2)) (λt ht=>by simp at ht) f5
   exact wpIn_mono (hr2.run B0 w0 _ a w hL (hI.restate hle hA2)) λ_ _ _ ⟨G',s',hG,k1,k2⟩=>⟨G',s',hle.trans hG,k1,k2⟩⟩
 .have hm:=hF.dm x hx
  refine⟨?_,hm.2⟩
  simp only
  refine(hset x (λe=>?_) (λe=>?_)).trans hm.1
  .rw[<-e]at hm
   rw[f2]at hm
   simp at hm
  .rw[<-e]at hm
   rw[g2]at hm
   simp at hm⟩
theorem zd2{E:Env}{rd:Option Nat}{N:Nat}{B:Bs}{c:Code}{Q:Exit->Conf->Prop}{C:Conf}{b r sz:Nat}{T T2:TypeId}{zs:List AV}{ys:List AV}(hb:hpF C.hp b=some (.rows T zs [.tp r]))(hr:hpF C.hp r=some (.tip sz T2 ys))
  (h:Sm E rd N B c Q ⟨C.sl,(b,some (.rows T (zs++[.sl sz ys none]) []))::C.hp,C.nx⟩):Sm E rd N B c Q C:=⟨λs hs=>by
 obtain⟨t,S,df⟩:=s
 obtain⟨ρ,hF,hR⟩:=hs
 simp only at hF hR
 obtain⟨hwk,h1⟩:=qjg (hR.hp.ok r _ hr)
 have htr:tpAt (ρ r)=ρ r:=by unfold tpAt;rw[h1];rfl
 rw[htr]at hwk
 rcases hR.hp.ok b _ hb with⟨e,_⟩|⟨o2,ver2,cap2,pad2,g1,g2,g3,g4,g5,g6⟩
 .simp[SV.evs]at e
 have hev:zs++SV.evs ρ [.tp r]=zs++[ρ r]:=by simp[SV.evs,SV.ev,htr]
 have hev2:(zs++[.sl sz ys none])++SV.evs ρ []=zs++[.sl sz ys none]:=by simp[SV.evs]
 rw[hev]at g1 g2 g3 g4 g5
 have hfa:flat (zs++[ρ r])++pad2=flat (zs)++ρ r::pad2:=by rw[va];simp[flat,qds h1]
 have hfb:flat (zs++[.sl sz ys none])++pad2=flat (zs)++ .sl sz ys none::pad2:=by rw[va];simp[flat,AV.cells]
 have hget:∀k x,hpF ((b,some (.rows T (zs++[.sl sz ys none]) []))::C.hp) k=some x->(k=b∧x=.rows T (zs++[.sl sz ys none]) [])∨(k≠b∧hpF C.hp k=some x):=λk x hk=>by
  unfold hpF at hk⊢
  simp only[lkS]at hk
  by_cases e:b=k
  .subst e
   simp at hk
   exact .inl ⟨rfl,hk.symm⟩
  .rw[zz e]at hk
   exact .inr ⟨λh=>e h.symm,hk⟩
 have hP:SatR B.S0 B.F ⟨C.sl,(b,some (.rows T (zs++[.sl sz ys none]) []))::C.hp,C.nx⟩ ρ t (S.set o2 (.cells ver2 T (flat (zs++[.sl sz ys none])++pad2))):=by
  refine⟨hR.sl,⟨λk x hk=>?_,λk k' x x' hne hk hk'=>?_⟩,λk x hk j hj=>?_,λj hj hFj=>?_,by simpa using hR.len,hR.wsl,λk x hk=>?_⟩
  .rcases hget k x hk with⟨rfl,rfl⟩|⟨n1,hk⟩
   .show OwnS _ 1 T ((zs++[.sl sz ys none])++SV.evs ρ []) (ρ k)
    rw[hev2]
    refine .inr ⟨o2,ver2,cap2,pad2,by rw[g1];simp,wc g2,?_,λy hy=>?_,by simpa using g5,g6⟩
    .rw[hfb]
     rw[hfa]at g3
     simpa using g3
    .rcases Qy.1 hy with h|h
     .exact g4 y (by simp[h])
     .simp only[Qq]at h
      subst h
      rfl
   .refine SR.ok_of (f:=λ_=>true) (SR.all_mono (λ_ _=>rfl) x (hR.whp k x hk).2) (λ_ _=>rfl) (hR.hp.ok k x hk) λj hj=>?_
    exact Ql λe=>hR.hp.sep k b _ _ n1 hk hb j hj (by rw[g1,<-e];rfl)
  .rcases hget k x hk with⟨rfl,rfl⟩|⟨n1,q1⟩
   .rcases hget k' x' hk' with⟨rfl,rfl⟩|⟨m1,q2⟩
    .exact absurd rfl hne
    .exact hR.hp.sep _ _ _ _ hne hb q2
   .rcases hget k' x' hk' with⟨rfl,rfl⟩|⟨m1,q2⟩
    .exact hR.hp.sep _ _ _ _ hne q1 hb
    .exact hR.hp.sep _ _ _ _ hne q1 q2
  .rcases hget k x hk with⟨rfl,rfl⟩|⟨n1,hk⟩
   .exact hR.own _ _ hb j hj
   .exact hR.own _ _ hk j hj
  .refine(Ql λe=>?_).trans (hR.low j hj hFj)
   rcases hR.own b _ hb o2 (by rw[g1];rfl)with q|q
   .omega
   .exact hFj (e▸q)
  .rcases hget k x hk with⟨rfl,rfl⟩|⟨n1,hk⟩
   .exact⟨(hR.whp _ _ hb).1,rfl⟩
   .exact hR.whp k x hk
 have hr2:=h.run ⟨t,S.set o2 (.cells ver2 T (flat (zs++[.sl sz ys none])++pad2)),df⟩ ⟨ρ,⟨λx hx=>?_,hF.nd,hF.rig,hF.le,hF.dz⟩,hP⟩
 .exact⟨λB0 w0 G a w hL hI=>by
   have hA2:=hI.agree.recell (cs':=flat (zs++[.sl sz ys none])++pad2) g2 (by rw[hfa,hfb];simp) λi x x' v hx hx' hv2=>by
    rw[hfa]at hx
    rw[hfb]at hx'
    rcases qy8 hx hx' with rfl |⟨rfl,rfl⟩
    .exact hv2
    .exact hwk _ _ hv2
   exact hr2.run B0 w0 G a w hL (hI.restate (.refl G) hA2)⟩
 .have hm:=hF.dm x hx
  refine⟨(Ql λe=>?_).trans hm.1,hm.2⟩
  rw[<-e]at hm
  rw[g2]at hm
  simp at hm⟩
theorem qn5{E:Env}{rd:Option Nat}{N:Nat}{B:Bs}{c:Code}{Q:Exit->Conf->Prop}{C:Conf}{b:Nat}{T:TypeId}{xs:List AV}(hb:hpF C.hp b=some (.rows T xs []))
  (h:Sm E rd N B c Q ⟨C.sl,(b,some (.own 1 T xs))::C.hp,C.nx⟩):Sm E rd N B c Q C:=⟨λs hs=>by
 obtain⟨ρ,hF,hR⟩:=hs
 have hget:∀k x,hpF ((b,some (.own 1 T xs))::C.hp) k=some x->(k=b∧x=.own 1 T xs)∨(k≠b∧hpF C.hp k=some x):=λk x hk=>by
  unfold hpF at hk⊢
  simp only[lkS]at hk
  by_cases e:b=k
  .subst e
   simp at hk
   exact .inl ⟨rfl,hk.symm⟩
  .rw[zz e]at hk
   exact .inr ⟨λh=>e h.symm,hk⟩
 have hev:∀ρ,xs++SV.evs ρ []=xs:=λρ=>by simp[SV.evs]
 refine h.run s ⟨ρ,⟨hF.dm,hF.nd,hF.rig,hF.le,hF.dz⟩,⟨hR.sl,⟨λk x hk=>?_,λk k' x x' hne hk hk'=>?_⟩,λk x hk j hj=>?_,hR.low,hR.len,hR.wsl,λk x hk=>?_⟩⟩
 .rcases hget k x hk with⟨rfl,rfl⟩|⟨n1,hk⟩
  .have:OwnS s.st 1 T (xs++SV.evs ρ []) (ρ k):=hR.hp.ok k _ hb
   rw[hev]at this
   exact this
  .exact hR.hp.ok k x hk
 .rcases hget k x hk with⟨rfl,rfl⟩|⟨n1,q1⟩
  .rcases hget k' x' hk' with⟨rfl,rfl⟩|⟨m1,q2⟩
   .exact absurd rfl hne
   .exact hR.hp.sep _ _ _ _ hne hb q2
  .rcases hget k' x' hk' with⟨rfl,rfl⟩|⟨m1,q2⟩
   .exact hR.hp.sep _ _ _ _ hne q1 hb
   .exact hR.hp.sep _ _ _ _ hne q1 q2
 .rcases hget k x hk with⟨rfl,rfl⟩|⟨n1,hk⟩
  .exact hR.own _ _ hb j hj
  .exact hR.own _ _ hk j hj
 .rcases hget k x hk with⟨rfl,rfl⟩|⟨n1,hk⟩
  .exact⟨(hR.whp _ _ hb).1,rfl⟩
  .exact hR.whp k x hk⟩
section
variable {E : Env} {rd : Option Nat} {N : Nat} {ops : Array Oper} {K : AS → Prop} {s : AS} {rest : List Oper} {d : Option Tmp} {T : TypeId} {p : String} {af : Array Edge}
theorem quy{x y:Operand}{t u T':TypeId}{sz bytes o:Nat}{xs ys:List AV}{a b:AV}{ob:AObj}(hx:qg N s x=a)(hy:qg N s y=b)(hsrc:SrcA s.st sz b ys.length ys.length (flat ys))(hys:∀y∈ys,y.cells.length=sz)(hV:Vec sz T' o xs a ob)(ho:s.st[o]?=some ob)
  (ht:E.P.underlying t=some (.slice T')) (hu:E.P.underlying u=some (.slice T')) (hT:wm E.P T' sz bytes) (h63:xs.length+ys.length<=maxLen) (hb:(xs.length+ys.length)*bytes<=140737488355328)
  (h:∀a' ob',Vec sz T' o (xs++ys) a' ob'->AOps E rd N ops rest K (AS.put ⟨s.t,s.st.set o ob',s.df⟩ d a')):AOps E rd N ops (⟨d,.call ⟨.builtin .append,#[x,y],#[t,u]⟩,T,p,af,none⟩::rest) K s:=by
 refine qw rfl (qu nofun λB0 w0 G a0 w _ hI=>?_)
 obtain⟨news,h1,h2,h3⟩:=qm0 (P:=E.P) hI.agree hsrc (hI.eval_of hy)
 obtain⟨v',w',G',a',ob',e1,e2,e3,e4,e5⟩:=qfl (ty:=T) hI.agree ht hu (.inr ⟨_,rfl⟩) hT hV ho (hI.eval_of hx) ⟨h1.len,h1.cells,h1.count,h1.one⟩ hys h3 h63 hb
 refine⟨v',w',G',_,_,?_,e2,e3,e4,h a' ob' e5⟩
 generalize a0.eval=ρ at e1
 simp[execOp,resolve,invoke,builtin,e1]
theorem qux{x y:Operand}{t u T':TypeId}{sz bytes:Nat}{ys:List AV}{b:AV}(hx:∀(G:Gh)(v:Value),Rel G (qg N s x) v->∃base,v=.slice base 0 0)(hy:qg N s y=b)(hsrc:SrcA s.st sz b ys.length ys.length (flat ys))(hys:∀y∈ys,y.cells.length=sz)
  (ht:E.P.underlying t=some (.slice T')) (hu:E.P.underlying u=some (.slice T')) (hT:wm E.P T' sz bytes) (h0:ys≠[]) (h63:ys.length<=maxLen) (hb:ys.length*bytes<=140737488355328)
  (h:∀cap pad,(flat ys++pad).length=(cap+1)*sz->ys.length<=cap+1->cap+1<=maxLen->AOps E rd N ops rest K (AS.put ⟨s.t,s.st++[.cells 0 T' (flat ys++pad)],s.df⟩ d (.os s.st.length 0 0 ys.length (cap+1)))):AOps E rd N ops (⟨d,.call ⟨.builtin .append,#[x,y],#[t,u]⟩,T,p,af,none⟩::rest) K s:=by
 refine qw rfl (qu nofun λB0 w0 G a0 w _ hI=>?_)
 obtain⟨i,z,hi,hz,rfl,rfl,hzs⟩:=hT.ex
 obtain⟨news,hS,h2,h3⟩:=qm0 (P:=E.P) hI.agree hsrc (hI.eval_of hy)
 have h1:Src E.P w (a0.eval y) ys.length i.size news:=⟨hS.len,hS.cells,hS.count,hS.one⟩
 obtain⟨base,hv⟩:=hx _ _ (hI.eval x)
 have hlen:0<ys.length:=Qw.2 h0
 have hold:(Builtin.firstCells i.size 0 (.slice base 0 0)).run E.P w.drew=.ok ([]:List Value).toArray w.drew:=by
  cases base with
  |none=>simp[run_firstCells_none]
  |some a=>exact run_firstCells_some w.drew i.size 0 a 0 0 [] Sx Sx
 have hrun:=qcc (ty:=T) ht hu (.inr ⟨_,rfl⟩) hi hz h1 base 0 0 [] hold Om (by simp only[maxLen]at h63;omega) (by simp only[Xm];rw[nextslicecap_zero Om];omega)
 simp only[Xm]at hrun
 have hge:=grownCap_ge w ys.length 0 T'
 have hle:=grownCap_le_maxLen w ys.length 0 T' h63
 generalize grownCap w ys.length 0 T'=cap at hrun hge hle
 obtain⟨cap,rfl⟩:∃c,cap=c+1:=⟨cap-1,Om⟩
 generalize hzc:Builtin.zeroCells z.cells (cap+1-ys.length)=zc at hrun
 have hzl:zc.size=(cap+1-ys.length)*i.size:=by rw[<-hzc,size_zeroCells,hzs]
 have hfy:(flat ys).length=ys.length*i.size:=zk hys
 have hdrew:Below w.heap.size w w.drew:=⟨rfl,rfl,rfl,Qm _,λ_ _=>rfl⟩
 have hr:=x2 (G:=G) (cs:=flat ys) (ds:=zc.toList.map AV.v) (vs:=news) (us:=zc.toList) (by rw[hfy,h1.count]) h3 (λj a b h1 h2=>by
  rw[Qd,h2]at h1
  simp at h1
  subst h1
  exact .v _)
 have hA:=(hI.agree.fresh hdrew).newCells T' (([]:List Value).toArray++news.toArray++zc) (flat ys++zc.toList.map AV.v) (by simp[hfy,h1.count]) (λj a b q1 q2=>hr j a b q1 (by rw[<-q2];simp[<-Array.getElem?_toList]))
 have hn:=hI.agree.n
 refine⟨_,_,_,_,_,?_,G.le_new _ _ _ _,hA,.os _ _ _ _ _ _ (by simp[Gh.new,hn]) (Nat.zero_le _) (λ_=>by simp[Gh.new,hn];rfl),h cap (zc.toList.map AV.v) ?_ hge hle⟩
 .generalize a0.eval=ρ at hrun hv⊢
  simp[execOp,resolve,invoke,builtin,hv,hrun]
 .have h1:zc.toList.length=(cap+1-ys.length)*i.size:=by rw[<-hzl];simp
  rw[Qf,hfy,Qi,h1,<-Nat.add_mul]
  congr 1
  omega
end
section
variable {E : Env} {N : Nat} {ops : Array Oper} {nx : Nat} {sl : List (Nat × SV)} {H : Nat → Option SR} {k : Ef → Prop} {d : Option Tmp} {T : TypeId} {p : String} {af : Array Edge}
theorem q4o{t e:TypeId}{parts:Array (Nat×Operand)}{v:SV}{agg:Bool}{zs:List AV}(hp:qkj N sl parts.toList=some [(0,v)])(hv:(v.one&&v.okc&&v.all (λk=> !Nat.beq k nx))=true)(he:elT (E.P.underlying t)=some e)(ht:tyOf E.P e=some (1,agg))(hz:qc4 E.P e 1=some zs)(hzl:zs.length=1)
  (h:k ⟨.tp nx,[],[(nx,some (.rows e [] [v]))],nx+1⟩):∃e,Loc E N ops ⟨d,.buildSlice t 1 parts,T,p,af,none⟩ nx sl H e∧k e:=by
 simp only[Zc]at hv
 refine⟨_,qgl (λk r hk=>by rw[qca]at hk;simp at hk) λdf rd K rest ρ t' S hs _ hk=>?_,h⟩
 have h1:=qmz ρ v hv.1.1
 have hc:=qds h1
 have hpa:kv N ⟨t',S,df⟩ parts=jb 0 [v.ev ρ]:=by unfold kv;exact qet hs hp
 have hfill:=qjq (sz:=1) [v.ev ρ] 0 [] zs (λy hy=>by
  simp only[Qq]at hy
  subst hy
  exact⟨qly ρ v hv.1.2,by rw[hc];rfl⟩) Sx (by simpa using hzl)
 have hfl:flat [v.ev ρ]=[v.ev ρ]:=by simp[flat,hc]
 rw[hfl]at hfill
 refine xq (loc:=[]) (st:=S) Sx (vh he) ht hz (by rw[hpa];simpa using hfill) (by decide) ?_
 have hev:∀c,SV.evs (upd ρ nx c) [v]=[v.ev ρ]:=λc=>by
  simp only[SV.evs]
  rw[qao (f:=λk=> !Nat.beq k nx) (ρ:=ρ) (ρ':=upd ρ nx c) (λk hk=>we _ _ (λe=>by subst e;simp at hk)) v hv.2]
 have:=hk (.os S.length 0 0 1 1) [.cells 0 e [v.ev ρ]]
  (by
   show OwnS _ 1 e (SV.evs (upd ρ nx (.os S.length 0 0 1 1)) [v]) _
   rw[hev]
   refine .inr ⟨S.length,0,0,[],rfl,by rw[hfl];exact wu,by rw[hfl];rfl,λx hx=>?_,Sx,by simp[maxLen]⟩
   simp only[Qq]at hx
   subst hx
   rw[hc];rfl)
  (λo ho=>by simp only[ze,Qg]at ho;omega)
 simpa[SV.ev,jc,tpAt,AV.one]using this
theorem q6f(ρ:Nat->AV)(zs:List AV)(cs:List SV):SV.evs ρ (zs.map SV.a++cs)=zs++SV.evs ρ cs:=by
 rw[qqh,jo,Ye]
 congr 1
 conv=>rhs;rw[<-List.map_id zs]
 exact List.map_congr_left λx _=>rfl
theorem xk{t e e':TypeId}{x y:Operand}{b i:Nat}{agg:Bool}{zs:List AV}{cs:List SV}{kd:IntKind}{v:SV}(hx:sval N sl x=some (.tp b))(hH:H b=some (.rows e zs cs))(hy:sval N sl y=some v)(hv:yz v=some (kd,(i:Int)))(he:elT (E.P.underlying t)=some e')(ht:tyOf E.P e'=some (1,agg))(hi:i<zs.length+cs.length)
  (h:k ⟨.bx b (0+i*1),[b],[],nx⟩):∃e,Loc E N ops ⟨d,.indexAddr t x y,T,p,af,none⟩ nx sl H e∧k e:=by
 refine⟨_,w8 (v:=.bx b (0+i*1)) λdf rd K rest ρ t' S hs hS hk=>?_,h⟩
 have hlen:(zs++SV.evs ρ cs).length=zs.length+cs.length:=by rw[Qf,jo,Qi]
 rcases hS.ok b _ ((vj b).trans hH)with⟨e0,_⟩|⟨o,ver,cap,pad,e1,e2,_⟩
 .rw[e0]at hlen
  simp at hlen
  omega
 .refine qft (o:=o) (ver:=ver) (off:=0) (len:=(zs++SV.evs ρ cs).length) (cp:=cap+1) ((qr hs hx).trans (by simp[SV.ev,e1,tpAt,AV.one])) ((qr hs hy).trans (w7 hv ρ)) (vh he) ht rfl Om ?_
  simpa only[SV.ev,e1,bxAt]using hk
theorem xl{t e:TypeId}{x:Operand}{b off i:Nat}{zs:List AV}{cs:List SV}{v:SV}(hx:sval N sl x=some (.bx b off))(hH:H b=some (.rows e zs cs))(ht:tyOf E.P t=some (1,false))(ho:off=0+i*1+0)(hz:(zs.map SV.a++cs)[i]?=some v)(hone:v.one=true)
  (h:k ⟨v,[b],[],nx⟩):∃e,Loc E N ops ⟨d,.load t x,T,p,af,none⟩ nx sl H e∧k e:=by
 refine⟨_,w8 (v:=v) λdf rd K rest ρ t' S hs hS hk=>?_,h⟩
 have hz2:(zs++SV.evs ρ cs)[i]?=some (v.ev ρ):=by rw[<-q6f,jo,Qd,hz];rfl
 rcases hS.ok b _ ((vj b).trans hH)with⟨e0,_⟩|⟨o,ver,cap,pad,e1,e2,e3,e4,_⟩
 .rw[e0]at hz2
  simp at hz2
 .subst ho
  refine ve (o:=o) (ver:=ver) (off:=0+i*1+0) ((qr hs hx).trans (by simp only[SV.ev,e1,bxAt])) e2 ht (qtt (sz:=1) e4 hz2 (by rw[qds (qmz ρ v hone)];rfl) Om λ_=>by omega) hk
theorem zcs(ρ:Nat->AV)(v:SV):∀(cs:List SV)(i:Nat),SV.evs ρ (cs.set i v)=(SV.evs ρ cs).set i (v.ev ρ):=λcs i=>by rw[jo,jo,Zy]
theorem qog(ρ:Nat->AV)(zs:List AV)(v:SV)(cs:List SV)(i:Nat):zs++SV.evs ρ (cs.set i v)=(zs++SV.evs ρ cs).set (zs.length+i) (v.ev ρ):=by
 rw[zcs,Zn _ _ Om,Nat.add_sub_cancel_left]
theorem qee{t e:TypeId}{x y:Operand}{b off i:Nat}{agg:Bool}{zs:List AV}{cs:List SV}{v:SV}(hx:sval N sl x=some (.bx b off))(hy:sval N sl y=some v)(hH:H b=some (.rows e zs cs))(ht:tyOf E.P t=some (1,agg))(ho:off=0+(zs.length+i)*1+0)(hi:i<cs.length)(hone:(v.one&&v.okc)=true)
  (h:k ⟨.a (.v undef),[b],[(b,some (.rows e zs (cs.set i v)))],nx⟩):∃e,Loc E N ops ⟨d,.store t x y,T,p,af,none⟩ nx sl H e∧k e:=by
 simp only[Zc]at hone
 refine⟨_,λdf rd K rest ρ t' S hs hS hk=>?_,h⟩
 have hv1:=qmz ρ v hone.1
 have hvc:=qds hv1
 have hlen:(zs++SV.evs ρ cs).length=zs.length+cs.length:=by rw[Qf,jo,Qi]
 have hzi:(zs++SV.evs ρ cs)[zs.length+i]?=some ((zs++SV.evs ρ cs)[zs.length+i]'(by omega)):=Qc Om
 rcases hS.ok b _ ((vj b).trans hH)with⟨e0,_⟩|⟨o,ver,cap,pad,e1,e2,e3,e4,e5,e6⟩
 .rw[e0]at hlen
  simp at hlen
  omega
 .subst ho
  have hzl:=e4 _ (Zb hzi)
  obtain⟨q1,q2⟩:=qqj (sz:=1) (j:=0) (us:=[v.ev ρ]) (z':=v.ev ρ) (pad:=pad) e4 hzi (by
   rw[hvc]
   unfold zt
   rw[List.take_zero,Xe (by rw[hzl];simp)]
   rfl) Sx
  refine qcj (o:=o) (ver:=ver) (off:=0+(zs.length+i)*1+0) (xs:=(v.ev ρ).cells) ((qr hs hx).trans (by simp only[SV.ev,e1,bxAt])) (qr hs hy) e2 ht (qly ρ v hone.2) rfl (by rw[hvc];rfl) (by
   intro z hz
   rw[hvc]at hz
   simp only[Qq]at hz
   subst hz
   exact hv1) (by
   have h1:(zs.length+i)*1+1<=(zs++SV.evs ρ cs).length*1:=Om
   rw[Qf,zk e4]
   omega) ?_
  rw[hvc,q1,<-qog]
  have hw':∀y∈zs++SV.evs ρ (cs.set i v),y.cells.length=1:=λy hy=>by
   rw[qog]at hy
   rcases Zx hy with h|rfl
   .exact e4 y h
   .rw[hvc];rfl
  have hl2:(zs++SV.evs ρ (cs.set i v)).length=(zs++SV.evs ρ cs).length:=by rw[qog,Zp]
  have key:∀k r,chF [(b,some (SR.rows e zs (cs.set i v)))] (resF [b] H) k=some r->k=b∧r=.rows e zs (cs.set i v):=λk r hk=>by
   simp only[chF,lkS]at hk
   by_cases e:b=k
   .subst e
    have:Nat.beq b b=true:=Sx
    rw[this]at hk
    simp only[cond_true,Qg]at hk
    exact⟨rfl,hk.symm⟩
   .rw[zz e]at hk
    have:=(kq hk).1
    simp only[memN,Zt,Xo,Xk]at this
    exact absurd (Qu this).symm e
  refine hk ρ _ ⟨λ_ _=>rfl,⟨λk r hk=>?_,λk k' r r' hne g1 g2=>?_⟩,Sx,λj hj hne=>?_,λk r hk o' ho'=>?_⟩
  .obtain⟨rfl,rfl⟩:=key k r hk
   show OwnS _ 1 e (zs++SV.evs ρ (cs.set i v)) (ρ k)
   refine .inr ⟨o,ver,cap,pad,by rw[e1,hl2],wc e2,?_,hw',by rw[hl2];exact e5,e6⟩
   rw[Qf,zk hw',hl2,<-zk e4,<-Qf]
   exact e3
  .exact absurd ((key k r g1).1.trans (key k' r' g2).1.symm) hne
  .have:=hne b _ ((vj b).trans hH)
   rw[e1]at this
   exact Ql (λe=>this (by rw[e];rfl))
  .obtain⟨rfl,rfl⟩:=key k r hk
   exact .inr ⟨k,_,(vj k).trans hH,ho'⟩
theorem q0x{x y:Operand}{t u e:TypeId}{b c bytes:Nat}{zs:List AV}{cs ds:List SV}(hx:sval N sl x=some (.tp b))(hH:H b=some (.rows e zs cs))(hy:sval N sl y=some (.tp c))(hK:H c=some (.rows e [] ds))(hbc:(!Nat.beq b c&& !Nat.beq b nx&& !Nat.beq c nx&&SV.alls (λk=> !Nat.beq k nx) (cs++ds)&&ones ds)=true)(hd:ds≠[])
  (ht:elT (E.P.underlying t)=some e) (hu:elT (E.P.underlying u)=some e) (hb:qml E.P e=some (1,bytes)) (hn:(Yn 0 bytes&&Xq bytes 140737)=true) (h1:zs.length+cs.length+ds.length<=1000000000)
  (h:k ⟨.tp nx,[b,c],[(b,none),(c,none),(nx,some (.rows e zs (cs++ds)))],nx+1⟩):∃e,Loc E N ops ⟨d,.call ⟨.builtin .append,#[x,y],#[t,u]⟩,T,p,af,none⟩ nx sl H e∧k e:=by
 simp only[Zc]at hbc hn
 obtain⟨⟨⟨⟨b1,b2⟩,b3⟩,b4⟩,b5⟩:=hbc
 have nbc:b≠c:=λe=>by subst e;simp at b1
 have nbn:b≠nx:=λe=>by subst e;simp at b2
 have ncn:c≠nx:=λe=>by subst e;simp at b3
 have hbl:=Zm hn.2
 refine⟨_,λdf rd K rest ρ t' S hs hS hk=>?_,h⟩
 have rb:resF [b,c] H b=some (.rows e zs cs):=by unfold resF;simp[memN,hH]
 have rc:resF [b,c] H c=some (.rows e [] ds):=by unfold resF;simp[memN,hK]
 have hlc:(zs++SV.evs ρ cs).length=zs.length+cs.length:=by rw[Qf,jo,Qi]
 have hld:(SV.evs ρ ds).length=ds.length:=by rw[jo,Qi]
 have hnil:([]:List AV)++SV.evs ρ ds=SV.evs ρ ds:=rfl
 have hds:SV.evs ρ ds≠[]:=λe=>by rw[e]at hld;exact hd (List.eq_nil_of_length_eq_zero (by simpa using hld.symm))
 have hmul:((zs++SV.evs ρ cs).length+(SV.evs ρ ds).length)*bytes<=140737488355328:=by
  rw[hlc,hld]
  exact Yf (Yc h1 hbl) (by decide)
 have hone:=qsm ρ ds b5
 have hfd:flat (SV.evs ρ ds)=SV.evs ρ ds:=q9k hone
 rcases hS.ok c _ rc with⟨e0,_⟩|⟨o2,ver2,cap2,pad2,g1,g2,g3,g4,g5,g6⟩
 .exact absurd e0 hds
 rw[hnil]at g1 g2 g3 g4 g5
 have hey:qg N ⟨t',S,df⟩ y=.os o2 ver2 0 (SV.evs ρ ds).length (cap2+1):=(qr hs hy).trans (by simp[SV.ev,g1,tpAt,AV.one])
 have hsrc:SrcA S 1 (.os o2 ver2 0 (SV.evs ρ ds).length (cap2+1)) (SV.evs ρ ds).length (SV.evs ρ ds).length (flat (SV.evs ρ ds)):=by
  have ht0:((flat (SV.evs ρ ds)++pad2).drop (0*1)).take ((SV.evs ρ ds).length*1)=flat (SV.evs ρ ds):=by
   rw[Nat.zero_mul,List.drop_zero,Nat.mul_one,hfd,Zs]
  have:=SrcA.os (st:=S) (sz:=1) o2 ver2 0 (SV.evs ρ ds).length (cap2+1) (SV.evs ρ ds).length e _ g2 (by rw[Qf,hfd];omega) (by
   rw[ht0,hfd]
   exact List.all_eq_true.2 hone)
  rw[ht0]at this
  exact this
 have hok:=hS.ok b _ rb
 have hev:qg N ⟨t',S,df⟩ x=ρ b:=(qr hs hx).trans (qbd hok)
 have key:∀k q,chF [(b,none),(c,none),(nx,some (SR.rows e zs (cs++ds)))] (resF [b,c] H) k=some q->k=nx∧q=.rows e zs (cs++ds):=λk q hk=>by
  simp only[chF,lkS]at hk
  by_cases e1:b=k
  .subst e1;simp at hk
  .rw[zz e1]at hk
   simp only[cond_false]at hk
   by_cases e2:c=k
   .subst e2;simp at hk
   .rw[zz e2]at hk
    simp only[cond_false]at hk
    by_cases e3:nx=k
    .subst e3
     simp at hk
     exact⟨rfl,hk.symm⟩
    .rw[zz e3]at hk
     simp only[cond_false]at hk
     have:=(kq hk).1
     simp only[memN,Zt,Xo,Xk,Xx]at this
     rcases this with h|h
     .exact absurd (Qu h).symm e1
     .exact absurd (Qu h).symm e2
 have fin:∀(a:AV)(S':List AObj),OwnS S' 1 e ((zs++SV.evs ρ cs)++SV.evs ρ ds) a->S.length<=S'.length->(∀j,j<S.length->ze (ρ b)≠some j->S'[j]?=S[j]?)->(∀o,ze a=some o->S.length<=o∨ze (ρ b)=some o)->AOps E rd N ops rest K (AS.put ⟨t',S',df⟩ d a):=λa S' q1 q2 q3 q4=>by
  have hev2:zs++SV.evs (upd ρ nx a) (cs++ds)=(zs++SV.evs ρ cs)++SV.evs ρ ds:=by
   rw[x9 (f:=λk=> !Nat.beq k nx) (ρ:=ρ) (λk hk=>we _ _ (λe=>by subst e;simp at hk)) _ b4,qqh,Zv]
  have:=hk (upd ρ nx a) S' ⟨λk hk=>we _ _ (by simp only at hk;omega),⟨λk r hk=>?_,λk k' r r' hne z1 z2=>absurd ((key k r z1).1.trans (key k' r' z2).1.symm) hne⟩,q2,λj hj hne=>q3 j hj (hne b _ rb),λk r hk o ho=>?_⟩
  .simpa only[SV.ev,jc,qbd q1]using this
  .obtain⟨rfl,rfl⟩:=key k r hk
   rw[jc]
   show OwnS S' 1 e (zs++SV.evs (upd ρ k a) (cs++ds)) a
   rw[hev2]
   exact q1
  .obtain⟨rfl,rfl⟩:=key k r hk
   rw[jc]at ho
   exact(q4 o ho).imp_right λh=>⟨b,_,rb,h⟩
 rcases hok with⟨e0,e1⟩|⟨o,ver,cap,pad,e1,e2,e3,e4,e5,e6⟩
 .refine qux (by rw[hev];exact e1.val) hey hsrc g4 (vh ht) (vh hu) (qb2 hb) hds (by simp only[maxLen];omega) (by rw[e0]at hmul;simpa using hmul) λcap pad z1 z2 z3=>?_
  refine fin _ _ (.inr ⟨S.length,0,cap,pad,by rw[e0];rfl,?_,?_,?_,?_,z3⟩) Sx (λj hj _=>Qj hj) λo ho=>.inl (by simp only[ze,Qg]at ho;omega)
  .rw[e0,Qz];exact wu
  .rw[e0,Qz];exact z1
  .rw[e0,Qz];exact g4
  .rw[e0,Qz];exact z2
 .refine quy (o:=o) (hev.trans e1) hey hsrc g4 (.os ver (cap+1) pad e3 e4 e5 e6) e2 (vh ht) (vh hu) (qb2 hb) (by simp only[maxLen];omega) hmul λa' ob' hV=>?_
  rcases qmb hV with⟨q,_,_⟩|⟨ver',cap',pad',rfl,rfl,q1,q2,q3,q4⟩
  .simp[hds]at q
  .obtain⟨cap',rfl⟩:∃c,cap'=c+1:=⟨cap'-1,by
    have:0<(SV.evs ρ ds).length:=Qw.2 hds
    simp at q3
    omega⟩
   refine fin _ _ (.inr ⟨o,ver',cap',pad',rfl,wc e2,q1,q2,q3,q4⟩) Sx (λj hj hne=>Ql λe=>hne (by rw[e1,e];rfl)) λo' ho'=>.inr (by rw[e1];exact ho')
end
end Go.Av
namespace Go.Av
open Go Go.RowKit
section
variable {E : Env} {N : Nat} {ops : Array Oper} {nx : Nat} {sl : List (Nat × SV)} {H : Nat → Option SR} {k : Ef → Prop} {d : Option Tmp} {T : TypeId} {p : String} {af : Array Edge}
theorem zdi{ts:Array TypeId}{x y z:Operand}{u v w:SV}{a b c:Int}(hx:sval N sl x=some u)(hy:sval N sl y=some v)(hz:sval N sl z=some w)(ia:yz u=some (.i64,a))(ib:yz v=some (.i64,b))(ic:yz w=some (.i64,c))
  (h:k (vd nx (.i (min (min a b) c)))):∃e,Loc E N ops ⟨d,.call ⟨.builtin .min,#[x,y,z],ts⟩,T,p,af,none⟩ nx sl H e∧k e:=by
 refine⟨_,z8 (v:=.i (min (min a b) c)) λdf rd K rest ρ t' S hs hk=>z4 (.int .i64 (min (min a b) c)) rfl nofun (λa' w' he=>by
  have e1:=he _ _ ((qr hs hx).trans (w7 ia ρ))
  have e2:=he _ _ ((qr hs hy).trans (w7 ib ρ))
  have e3:=he _ _ ((qr hs hz).trans (w7 ic ρ))
  by_cases h1:b<a
  .have e4:min a b=b:=by omega
   by_cases h2:c<b
   .have e5:min (min a b) c=c:=by omega
    rw[e5]
    simp[execOp,resolve,invoke,builtin,Builtin.min_,Builtin.min2,e1,e2,e3,h1,h2]
   .have e5:min (min a b) c=b:=by omega
    rw[e5]
    simp[execOp,resolve,invoke,builtin,Builtin.min_,Builtin.min2,e1,e2,e3,h1,h2]
  .have e4:min a b=a:=by omega
   by_cases h2:c<a
   .have e5:min (min a b) c=c:=by omega
    rw[e5]
    simp[execOp,resolve,invoke,builtin,Builtin.min_,Builtin.min2,e1,e2,e3,h1,h2]
   .have e5:min (min a b) c=a:=by omega
    rw[e5]
    simp[execOp,resolve,invoke,builtin,Builtin.min_,Builtin.min2,e1,e2,e3,h1,h2]) hk,h⟩
end
end Go.Av
namespace Go.Av
open Go Go.RowKit
structure EntE (n0:Nat) (C C':Conf):Prop where
 ent:∃σ,(rigN σ n0&&Xq n0 C'.nx)=true∧EntC σ C C'
theorem entE{n0:Nat}{C C':Conf}(σ:List (Nat×Nat))(h:(rigN σ n0&&Xq n0 C'.nx)=true∧EntC σ C C'):EntE n0 C C':=⟨σ,h⟩
theorem q7x{E:Env}{rd:Option Nat}{N:Nat}{B:Bs}{Q:Exit->Conf->Prop}{C:Conf}{X:Type}{c:Code}(I:X->Conf)(P:X->Prop)(μ:X->Nat)(x0:X)(h0:P x0)(he:EntE B.n0 C (I x0))
  (hr:∀x,P x->Sm E rd N B c (λe C'=>match e with
   |.normal=>∃x',P x'∧μ x'<μ x∧EntE B.n0 C' (I x')
   |e=>Q e C') (I x)):Sm E rd N B (.loop c) Q C:=⟨λs hs=>by
 refine ko (σ:=X) (λx s=>P x∧∃t',(∀d,Wk (s.t d) (t' d))∧SatC B (I x) ⟨t',s.st,s.df⟩) μ x0 ?_ ?_
 .obtain⟨t,S,df⟩:=s
  obtain⟨ρ,hdf,hR⟩:=hs
  simp only at hdf hR
  obtain⟨σ0,hr0,he⟩:=he.ent
  obtain⟨t',hw,hR'⟩:=he.sat hR
  exact⟨h0,t',hw,_,hdf.ren hr0,hR'⟩
 .rintro x ⟨t,S,df⟩ ⟨hP,t',hw,hs⟩
  simp only at hw hs
  refine qwo hw (((hr x hP).run ⟨t',S,df⟩ hs).mono λe s' ⟨C',hq,hs'⟩=>?_)
  cases e with
  |normal=>
   obtain⟨x',hP',hlt,he'⟩:=hq
   obtain⟨t2,S2,df2⟩:=s'
   obtain⟨ρ2,hdf2,hR2⟩:=hs'
   simp only at hdf2 hR2
   obtain⟨σ,hr2,he'⟩:=he'.ent
   obtain⟨t3,hw3,hR3⟩:=he'.sat hR2
   exact⟨x',⟨hP',t3,hw3,_,hdf2.ren hr2,hR3⟩,hlt⟩
  |_=>exact⟨C',hq,hs'⟩⟩
theorem ix64{n m:Int}(h:n=m):yz (.i n)=some (IntKind.i64,m):=by rw[h];rfl
def q4p(H:Nat->Option SR):List (Nat×Option SR)->Prop
 | []=>True
 |(k,r)::l=>H k=r∧q4p H l
theorem qul{H:Nat->Option SR}:∀{hp:List (Nat×Option SR)},q4p H hp->resF (jt hp) H=hpF hp
 | [],_=>by funext k;simp[resF,jt,memN,hpF,lkS]
 |(i,r)::l,h=>by
  have ih:=congrFun (qul h.2)
  funext k
  have:=ih k
  unfold resF memN jt hpF at this⊢
  simp only[Xj,Zt,lkS]
  by_cases e:i=k
  .subst e
   simp[h.1]
  .rw[zz e,zz λh=>e h.symm,Bool.false_or,cond_false]
   exact this
theorem zb4{E:Env}{f:FuncId}{vs:List SV}{hp0:List (Nat×Option SR)}{nx0 nx:Nat}{v:SV}{H:Nat->Option SR}(h:j9 E f vs nx0 (hpF hp0) ⟨v,jt hp0,hp0++ku hp0,nx0⟩)(hs:q4p H hp0):
  j9 E f vs nx H ⟨v,jt hp0,[],nx⟩:=λρ S hS=>by
 have hr:=qul hs
 simp only[hr]at hS
 refine(h ρ S (by simpa only[vq]using hS)).mono ?_
 rintro r S' ⟨ρ',rfl,hp⟩
 have e:ρ'=ρ:=funext λk=>hp.old k (by simp only;omega)
 subst e
 refine⟨ρ',rfl,λ_ _=>rfl,?_,hp.len,λj hj hn=>?_,λk r hk o ho=>?_⟩
 .have:=hp.sat
  simp only[vq,qdn]at this
  have e2:chF [] (resF (jt hp0) H)=hpF hp0:=by rw[hr];rfl
  simp only[e2]
  exact this
 .refine hp.fr j hj λk r hk=>?_
  simp only[vq]at hk
  exact hn k r (by simp only[hr];exact hk)
 .have e2:chF [] (resF (jt hp0) H)=hpF hp0:=by rw[hr];rfl
  simp only[e2]at hk
  exact .inr ⟨k,r,by simp only[hr];exact hk,ho⟩
structure LocK (E:Env) (N:Nat) (l:List Oper) (o:Oper) (nx:Nat) (sl:List (Nat×SV)) (H:Nat->Option SR) (k:Ef->Prop):Prop where
 ex:∃e,Loc E N l.toArray o nx sl H e∧k e
def q46(E:Env)(N:Nat)(l:List Oper):Nat->List Oper->List Tr->(List Tr->Conf->Prop)->Conf->Prop
 |_,[],tr,K,C=>K tr C
 |i,o::r,tr,K,⟨sl,hp,nx⟩=>LocK E N l o nx (rs (rdOf l o) sl) (hpF hp) (gdW (isGd i l) (fcE λe=>qq6 sl hp nx o.dst (q46 E N l (i+1) r (tr++[⟨rdOf l o,o.dst,e,nx⟩]) K) e))
theorem qzj{E:Env}{N:Nat}{l:List Oper}{C0:Conf}{K:List Tr->Conf->Prop}:∀{r:List Oper}{i:Nat}{tr:List Tr}{C:Conf},(∀k,r[k]?=l[i+k]?)->tr.length=i->i+r.length=l.length->C=runT tr C0->
  (∀j o t,l[j]?=some o->tr[j]?=some t->Loc E N l.toArray o t.nx (rs t.rd (runT (tr.take j) C0).sl) (hpF (runT (tr.take j) C0).hp) t.e∧t.e.wf t.nx=true∧t.nx=(runT (tr.take j) C0).nx∧t.dst=o.dst)->
  q46 E N l i r tr K C->∃tr',qvj E N l C0 tr'∧K tr' (runT tr' C0)
 | [],i,tr,C,hr,hl,hn,hC,hw,h=>⟨tr,⟨by simpa[hl]using hn,hw⟩,by rw[<-hC];exact h⟩
 |o::r,i,tr,⟨sl,hp,nx⟩,hr,hl,hn,hC,hw,h=>by
  obtain⟨e,hL,h⟩:=h.ex
  obtain⟨e,hL,h⟩:=qxg hL h
  rw[qw5]at h
  obtain⟨hwf,h⟩:=qow h
  .refine qzj (r:=r) (i:=i+1) (tr:=tr++[⟨rdOf l o,o.dst,e,nx⟩]) (λk=>?_) (by simp[hl]) (by simp at hn;omega) (by rw[qyx,<-hC]) (λj o' t ho ht=>?_) h
   .have:=hr (k+1)
    rw[show i+1+k=i+(k+1)by omega,<-this]
    rfl
   .by_cases hj:j<tr.length
    .rw[Qj hj]at ht
     rw[List.take_append_of_le_length Om]
     exact hw j o' t ho ht
    .have hji:j=tr.length:=by
      have:=lt_of_getElem? ht
      simp at this
      omega
     subst hji
     simp only[List.getElem?_concat_length,Qg]at ht
     subst ht
     have ho2:=hr 0
     rw[<-hl,Nat.add_zero,ho]at ho2
     simp only[Zz,Qg]at ho2
     subst ho2
     rw[Zs,<-hC]
     exact⟨hL,hwf,rfl,rfl⟩
theorem q7w{E:Env}{rd:Option Nat}{N:Nat}{B:Bs}{Q:Exit->Conf->Prop}{C:Conf}{id:Nat}{ops:Array Oper}
  (h:q46 E N ops.toList 0 ops.toList [] (λtr C'=>DrOk E ops.toList tr∧Q .normal C') C):Sm E rd N B (.region id ops true) Q C:=⟨λs hs=>by
 obtain⟨tr,hw,hb,hq⟩:=qzj (C0:=C) (l:=ops.toList) (i:=0) (tr:=[]) (λk=>by rw[Xm]) rfl Sx rfl (λj o t _ ht=>by simp at ht) h
 have hb:=hb.ok
 simp only[drB,Zc]at hb
 have e:ops=ops.toList.toArray:=Sx
 rw[e]
 exact qtb hb.1.1.1 hb.1.1.2 hb.1.2 hw hb.2 hs λs' hs'=>⟨_,hq,hs'⟩⟩
theorem locK{E:Env}{N:Nat}{l:List Oper}{o:Oper}{nx:Nat}{sl:List (Nat×SV)}{H:Nat->Option SR}{k:Ef->Prop}(h:opG E N l [] nx sl H k o):LocK E N l o nx sl H k:=⟨qx7 h⟩
theorem locX{E:Env}{N:Nat}{l:List Oper}{o:Oper}{nx:Nat}{sl:List (Nat×SV)}{H:Nat->Option SR}{k:Ef->Prop}(h:∃e,Loc E N l.toArray o nx sl H e∧k e):LocK E N l o nx sl H k:=⟨h⟩
section
variable {E : Env} {N : Nat} {ops : Array Oper} {nx : Nat} {sl : List (Nat × SV)} {H : Nat → Option SR} {k : Ef → Prop} {d : Option Tmp} {T : TypeId} {p : String} {af : Array Edge}
theorem qyw{x y:Operand}{t u e:TypeId}{b c bytes:Nat}{zs:List AV}{y0:AV}(hx:sval N sl x=some (.tp b))(hH:H b=some (.rows e zs []))(hy:sval N sl y=some (.tp c))(hK:H c=some (.tip 1 e [y0]))(hbc:(!Nat.beq b c&& !Nat.beq b nx&& !Nat.beq c nx)=true)
  (ht:elT (E.P.underlying t)=some e) (hu:elT (E.P.underlying u)=some e) (hb:qml E.P e=some (1,bytes)) (hn:(Yn 0 bytes&&Xq bytes 140737)=true) (h1:zs.length+1<=1000000000) (hone:jl (flat [y0])=true)
  (h:k ⟨.tp nx,[b,c],[(b,none),(c,none),(nx,some (.rows e zs [.a y0]))],nx+1⟩):∃e,Loc E N ops ⟨d,.call ⟨.builtin .append,#[x,y],#[t,u]⟩,T,p,af,none⟩ nx sl H e∧k e:=by
 simp only[Zc]at hbc hn
 obtain⟨⟨b1,b2⟩,b3⟩:=hbc
 have nbc:b≠c:=λe=>by subst e;simp at b1
 have nbn:b≠nx:=λe=>by subst e;simp at b2
 have ncn:c≠nx:=λe=>by subst e;simp at b3
 have hbl:=Zm hn.2
 refine⟨_,λdf rd K rest ρ t' S hs hS hk=>?_,h⟩
 have rb:resF [b,c] H b=some (.rows e zs []):=by unfold resF;simp[memN,hH]
 have rc:resF [b,c] H c=some (.tip 1 e [y0]):=by unfold resF;simp[memN,hK]
 obtain⟨ys,hys⟩:∃ys,ys=[y0]:=⟨_,rfl⟩
 rw[<-hys]at hone rc
 have hyl:ys.length=1:=by rw[hys];rfl
 have hy0:ys≠[]:=by rw[hys];simp
 have h1:zs.length+ys.length<=1000000000:=Om
 have hmul:(zs.length+ys.length)*bytes<=140737488355328:=Yf (Yc h1 hbl) (by decide)
 obtain⟨hwk,hc1⟩:=qjg (hS.ok c _ rc)
 have htr:tpAt (ρ c)=ρ c:=by unfold tpAt;rw[hc1];rfl
 rw[htr]at hwk
 have hw:∀(G:Gh)(v:Value),Rel G (qg N ⟨t',S,df⟩ y) v->Rel G (.sl 1 ys none) v:=by
  have e1:qg N ⟨t',S,df⟩ y=ρ c:=(qr hs hy).trans (by simp only[SV.ev,tpAt,hc1,cond_true])
  rw[e1]
  exact hwk
 have hok:OwnS S 1 e zs (ρ b):=by
  have:OwnS S 1 e (zs++SV.evs ρ []) (ρ b):=hS.ok b _ rb
  simpa[SV.evs]using this
 have hev:qg N ⟨t',S,df⟩ x=ρ b:=(qr hs hx).trans (qbd hok)
 have key:∀k q,chF [(b,none),(c,none),(nx,some (SR.rows e zs [.a y0]))] (resF [b,c] H) k=some q->k=nx∧q=.rows e zs [.a y0]:=λk q hk=>by
  simp only[chF,lkS]at hk
  by_cases e1:b=k
  .subst e1;simp at hk
  .rw[zz e1]at hk
   simp only[cond_false]at hk
   by_cases e2:c=k
   .subst e2;simp at hk
   .rw[zz e2]at hk
    simp only[cond_false]at hk
    by_cases e3:nx=k
    .subst e3
     simp at hk
     exact⟨rfl,hk.symm⟩
    .rw[zz e3]at hk
     simp only[cond_false]at hk
     have:=(kq hk).1
     simp only[memN,Zt,Xo,Xk,Xx]at this
     rcases this with h|h
     .exact absurd (Qu h).symm e1
     .exact absurd (Qu h).symm e2
 have fin:∀(a:AV)(S':List AObj),OwnS S' 1 e (zs++ys) a->S.length<=S'.length->(∀j,j<S.length->ze (ρ b)≠some j->S'[j]?=S[j]?)->(∀o,ze a=some o->S.length<=o∨ze (ρ b)=some o)->AOps E rd N ops rest K (AS.put ⟨t',S',df⟩ d a):=λa S' q1 q2 q3 q4=>by
  have:=hk (upd ρ nx a) S' ⟨λk hk=>we _ _ (by simp only at hk;omega),⟨λk r hk=>?_,λk k' r r' hne z1 z2=>absurd ((key k r z1).1.trans (key k' r' z2).1.symm) hne⟩,q2,λj hj hne=>q3 j hj (hne b _ ((by unfold resF;simp[memN,hH]):resF [b,c] H b=some (.rows e zs []))),λk r hk o ho=>?_⟩
  .simpa only[SV.ev,jc,qbd q1]using this
  .obtain⟨rfl,rfl⟩:=key k r hk
   rw[jc]
   show OwnS S' 1 e (zs++[y0]) a
   rw[<-hys]
   exact q1
  .obtain⟨rfl,rfl⟩:=key k r hk
   rw[jc]at ho
   exact(q4 o ho).imp_right λh=>⟨b,_,rb,h⟩
 rcases hok with⟨rfl,e1⟩|⟨o,ver,cap,pad,e1,e2,e3,e4,e5,e6⟩
 .refine qa2 (by rw[hev];exact e1.val) hw (vh ht) (vh hu) (qb2 hb) hone hy0 (by simp only[maxLen];simp only[Qh]at h1;omega) (by simpa using hmul) λcap pad q1 q2 q3 q4=>?_
  exact fin _ _ (.inr ⟨S.length,0,cap,pad,rfl,wu,q1,q2,q3,q4⟩) Sx (λj hj _=>Qj hj) λo ho=>.inl (by simp only[ze,Qg]at ho;omega)
 .refine qfm (o:=o) (hev.trans e1) hw (.os ver (cap+1) pad e3 e4 e5 e6) e2 (vh ht) (vh hu) (qb2 hb) hone (by simp only[maxLen];omega) hmul λa' ob' hV=>?_
  rcases qmb hV with⟨q,_,_⟩|⟨ver',cap',pad',rfl,rfl,q1,q2,q3,q4⟩
  .simp[hy0]at q
  .obtain⟨cap',rfl⟩:∃c,cap'=c+1:=⟨cap'-1,by
    have:0<ys.length:=Qw.2 hy0
    simp at q3
    omega⟩
   refine fin _ _ (.inr ⟨o,ver',cap',pad',rfl,wc e2,q1,q2,q3,q4⟩) Sx (λj hj hne=>Ql λe=>hne (by rw[e1,e];rfl)) λo' ho'=>.inr (by rw[e1];exact ho')
end
end Go.Av
namespace Go.Pl
open Go Go.Proofs Go.Proofs.YtapblfabkbdgcaaGreatDoor
section
variable {α : Type} [DecidableEq α]
def zi(a b:List α)(i j:Nat):Int:=(vk a b i j:Int)
def rowF(a b:List α)(i n:Nat):List Int:=(Xy n).map (zi a b i)
theorem qdi(a b:List α)(i n:Nat):(rowF a b i n).length=n:=by simp[rowF]
theorem qum(a b:List α)(i n:Nat):rowF a b i (n+1)=rowF a b i n++[zi a b i n]:=by simp[rowF,Xz]
theorem qyv(a b:List α)(i:Nat){n j:Nat}(h:j<n):(rowF a b i n)[j]?=some (zi a b i j):=by
 unfold rowF
 rw[Qd,Zq h]
 rfl
def x5(a b:List α)(i n j:Nat):List Int:=rowF a b i j++Xg (n-j) 0
theorem q7g(a b:List α)(i:Nat){n j:Nat}(h:j<=n):(x5 a b i n j).length=n:=by
 unfold x5
 rw[Qf,qdi,List.length_replicate]
 omega
theorem q4a(a b:List α)(i n:Nat):x5 a b i n 0=Xg n 0:=by simp[x5,rowF]
theorem q39(a b:List α)(i n:Nat):x5 a b i n n=rowF a b i n:=by simp[x5]
theorem q7f(a b:List α)(i:Nat){n j k:Nat}(h:k<j):(x5 a b i n j)[k]?=some (zi a b i k):=by
 unfold x5
 rw[Qj (by rw[qdi];exact h)]
 exact qyv a b i h
theorem q7h(a b:List α)(i:Nat){n j:Nat}(h:j<n):(x5 a b i n j).set j (zi a b i j)=x5 a b i n (j+1):=by
 unfold x5
 have e:n-j=n-(j+1)+1:=Om
 rw[Zn _ _ (by rw[qdi];exact Qm _),qdi,Zo,e,List.replicate_succ,Xl,qum,Zv]
 rfl
theorem qse(a b:List α)(j:Nat):zi a b 0 j=j:=by unfold zi;rw[qhu]
theorem qek(a b:List α)(i:Nat):zi a b i 0=i:=by unfold zi;rw[qe8]
theorem qp6(a b:List α){i j:Nat}(h:a[i]?=b[j]?):zi a b (i+1) (j+1)=zi a b i j:=by unfold zi;rw[qmk,if_pos h]
theorem qni(a b:List α){i j:Nat}(h:¬a[i]?=b[j]?):zi a b (i+1) (j+1)=1+min (min (zi a b i j) (zi a b i (j+1))) (zi a b (i+1) j):=by
 unfold zi
 rw[qmk,if_neg h]
 omega
def qfj(a b:List α)(n m:Nat):List (List Int):=(Xy n).map λi=>rowF a b i m
theorem q02(a b:List α)(n m:Nat):qfj a b (n+1) m=qfj a b n m++[rowF a b n m]:=by simp[qfj,Xz]
theorem q4w(a b:List α)(m:Nat){n i:Nat}(h:i<n):(qfj a b n m)[i]?=some (rowF a b i m):=by
 unfold qfj
 rw[Qd,Zq h]
 rfl
theorem q4x(a b:List α)(n m:Nat):(qfj a b n m).length=n:=by simp[qfj]
def qbt(i j:Nat)(same:Bool)(diag up here:Int):Int:=
 if 0<i∧0<j∧same=true∧diag=here then 1 else if 0<i∧0<j∧diag=here-1 then 2 else if 0<i∧up=here-1 then 3 else 4
theorem qxq(a b:List α)(i j:Nat):qbt i j (decide (a[i-1]?=b[j-1]?)) (zi a b (i-1) (j-1)) (zi a b (i-1) j) (zi a b i j)=wj a b i j:=by
 have e1:∀x y:Nat,((x:Int)=(y:Int)-1)↔x+1=y:=λx y=>by omega
 have e2:∀x y:Nat,((x:Int)=(y:Int))↔x=y:=λx y=>by omega
 unfold qbt wj zi
 simp only[decide_eq_true_eq,e1,e2]
structure qar (a b:List α) (out:List Int) (n i j:Nat):Prop where
 le:i+j<=n
 hi:i<=a.length
 hj:j<=b.length
 eq:(wayF a b).reverse=out++wayB a b n i j
theorem quu(a b:List α):qar a b [] (a.length+b.length) a.length b.length:=⟨Qm _,Qm _,Qm _,by simp[wayF]⟩
theorem qzh{a b:List α}{out:List Int}{n i j:Nat}(h:qar a b out n i j)(h0:¬(i=0∧j=0)):
  ∃m,m+1=n∧qar a b (out++[wj a b i j]) m (if wj a b i j=4 then i else i-1) (if wj a b i j=3 then j else j-1):=by
 obtain⟨m,rfl⟩:∃m,n=m+1:=⟨n-1,by have:=h.le;omega⟩
 have h1:=h.le
 have h2:=h.hi
 have h3:=h.hj
 refine⟨m,rfl,?_,by split <;>omega,by split <;>omega,?_⟩
 .have l:=qlo a b i j
  have r:=qjy a b i j h0
  rcases qlp a b i j with e|e|e|e<;>rw[e]at l r⊢ <;>simp at l r⊢ <;>omega
 .rw[h.eq,wayB,if_neg h0]
  simp
theorem q2m{a b:List α}{out:List Int}{n:Nat}(h:qar a b out n 0 0):out.reverse=wayF a b:=by
 have:=h.eq
 have e:wayB a b n 0 0=[]:=by cases n<;>simp[wayB]
 rw[e,Qx]at this
 rw[<-this,List.reverse_reverse]
end
theorem zdp{w:Int}{ws:List Int}{S:List (Int×List Fld)}{R:List (List Fld)}(h:OkW (w::ws) S R):
  (w=1∧∃s S' R',S=s::S'∧R=s.2::R'∧OkW ws S' R')∨(w=2∧∃s S' r R',S=s::S'∧R=r::R'∧OkW ws S' R')∨(w=3∧∃s S',S=s::S'∧OkW ws S' R)∨(w=4∧∃r R',R=r::R'∧OkW ws S R'):=by
 cases h with
 |keep h=>exact .inl ⟨rfl,_,_,_,rfl,rfl,h⟩
 |change h=>exact .inr (.inl ⟨rfl,_,_,_,_,rfl,rfl,h⟩)
 |drop h=>exact .inr (.inr (.inl ⟨rfl,_,_,rfl,h⟩))
 |add h=>exact .inr (.inr (.inr ⟨rfl,_,_,rfl,h⟩))
theorem q12{S:List (Int×List Fld)}{R:List (List Fld)}(h:OkW [] S R):S=[]∧R=[]:=by
 cases h
 exact⟨rfl,rfl⟩
theorem zcl(ws:List Int)(s:Int×List Fld)(S:List (Int×List Fld))(r:List Fld)(R:List (List Fld))(bh nx:Int):zq (1::ws) (s::S) (r::R) bh nx=zq ws S R s.1 nx:=by simp[zq]
theorem q6a(ws:List Int)(s:Int×List Fld)(S:List (Int×List Fld))(r:List Fld)(R:List (List Fld))(bh nx:Int):zq (2::ws) (s::S) (r::R) bh nx=⟨1,s.1,r⟩::zq ws S R s.1 nx:=by simp[zq]
theorem zck(ws:List Int)(s:Int×List Fld)(S:List (Int×List Fld))(R:List (List Fld))(bh nx:Int):zq (3::ws) (s::S) R bh nx=⟨2,s.1,[]⟩::zq ws S R bh nx:=by simp[zq]
theorem ze7(ws:List Int)(S:List (Int×List Fld))(r:List Fld)(R:List (List Fld))(bh nx:Int):zq (4::ws) S (r::R) bh nx=⟨3,bh,r⟩::zq ws S R nx (nx+1):=by simp[zq]
structure EdAt (full out:List qq) (ws:List Int) (S:List (Int×List Fld)) (R:List (List Fld)) (bh nx:Int):Prop where
 ok:OkW ws S R
 eq:full=out++zq ws S R bh nx
theorem qwz{ws:List Int}{S:List (Int×List Fld)}{R:List (List Fld)}(h:OkW ws S R)(bh nx:Int):EdAt (zq ws S R bh nx) [] ws S R bh nx:=⟨h,rfl⟩
theorem q6b{full out:List qq}{S:List (Int×List Fld)}{R:List (List Fld)}{bh nx:Int}(h:EdAt full out [] S R bh nx):full=out:=by
 rw[h.eq,zq,Qx]
theorem q1o{full out:List qq}{w:Int}{ws:List Int}{S:List (Int×List Fld)}{R:List (List Fld)}{bh nx:Int}(h:EdAt full out (w::ws) S R bh nx):
  (w=1∧∃s S' R',S=s::S'∧R=s.2::R'∧EdAt full out ws S' R' s.1 nx)∨(w=2∧∃s S' r R',S=s::S'∧R=r::R'∧EdAt full (out++[⟨1,s.1,r⟩]) ws S' R' s.1 nx)∨
  (w=3∧∃s S',S=s::S'∧EdAt full (out++[⟨2,s.1,[]⟩]) ws S' R bh nx)∨(w=4∧∃r R',R=r::R'∧EdAt full (out++[⟨3,bh,r⟩]) ws S R' nx (nx+1)):=by
 obtain⟨ho,he⟩:=h
 rcases zdp ho with⟨rfl,s,S',R',rfl,rfl,h⟩|⟨rfl,s,S',r,R',rfl,rfl,h⟩|⟨rfl,s,S',rfl,h⟩|⟨rfl,r,R',rfl,h⟩
 .rw[zcl]at he
  exact .inl ⟨rfl,s,S',R',rfl,rfl,h,he⟩
 .rw[q6a]at he
  exact .inr (.inl ⟨rfl,s,S',r,R',rfl,rfl,h,by rw[he];simp⟩)
 .rw[zck]at he
  exact .inr (.inr (.inl ⟨rfl,s,S',rfl,h,by rw[he];simp⟩))
 .rw[ze7]at he
  exact .inr (.inr (.inr ⟨rfl,r,R',rfl,h,by rw[he];simp⟩))
end Go.Pl
namespace Go.Pl
open Go Go.Proofs Go.Proofs.YtapblfabkbdgcaaGreatDoor
structure PatV where
 fr:BitVec 32
 to':BitVec 32
 b:List qq
def pat0:PatV:=⟨0,0,[]⟩
def jv(l:qo):List (List Fld):=(stzF l.ents).map Qk
def yt(text:qd)(l:qo)(R:List (List Fld)):ErrV×PatV:=
 if 40<(km l R).length then(.num 1,pat0)
 else if(jp l (km l R)).1=.no then(.no,⟨addP 0 text,addP 0 (xd (jp l (km l R)).2),km l R⟩)
 else((jp l (km l R)).1,pat0)
def vn(old now:qd):ErrV×PatV:=
 if zn old=.no then(if zn now=.no then yt old (ofF (itsE old)) (jv (ofF (itsE now)))else(zn now,pat0))else(zn old,pat0)
def vg(text:qd)(p:PatV):ErrV×qd:=
 if zn text=.no then
  (if addP 0 text=p.fr then
   (if(jp (ofF (itsE text)) p.b).1=.no then
    (if addP 0 (xd (jp (ofF (itsE text)) p.b).2)=p.to' then(.no,xd (jp (ofF (itsE text)) p.b).2)else(.num 10,[]))
   else((jp (ofF (itsE text)) p.b).1,[]))
  else(.num 13,[]))
 else(zn text,[])
def qc7(text:qd)(p:PatV):ErrV×PatV:=if(vg text p).1=.no then vn (vg text p).2 text else((vg text p).1,pat0)
theorem qx6{text:qd}(h:zn text=.no):GL (ofF (itsE text)):=by
 obtain⟨h1,_,h3⟩:=qis h
 refine zfr ?_ ?_
 .rw[h3];exact ql0 h1
 .rw[h3];exact q7d h1
theorem q89{l:qo}(h:GL l)(b:List qq):GL (jp l b).2:=by
 unfold jp
 split
 .exact h
 .exact ze2 h b
theorem qrn{l:qo}(h:GL l):∀r∈jv l,zo r=.no:=q76 h
theorem zdh{old now:qd}(h:(vn old now).1=.no):zn old=.no∧zn now=.no∧(vn old now).2=⟨addP 0 old,addP 0 (xd (jp (ofF (itsE old)) (vn old now).2.b).2),(vn old now).2.b⟩∧(jp (ofF (itsE old)) (vn old now).2.b).1=.no∧jv (jp (ofF (itsE old)) (vn old now).2.b).2=jv (ofF (itsE now)):=by
 unfold vn at h⊢
 by_cases h1:zn old=.no
 .rw[if_pos h1]at h⊢
  by_cases h2:zn now=.no
  .rw[if_pos h2]at h⊢
   unfold yt at h⊢
   by_cases h3:40<(km (ofF (itsE old)) (jv (ofF (itsE now)))).length
   .rw[if_pos h3]at h
    simp at h
   .rw[if_neg h3]at h⊢
    have hd:=q56 (l:=ofF (itsE old)) (R:=jv (ofF (itsE now))) (q61 _) (qrn (qx6 h2)) Om
    by_cases h4:(jp (ofF (itsE old)) (km (ofF (itsE old)) (jv (ofF (itsE now))))).1=.no
    .rw[if_pos h4]
     rcases hd with⟨j,hd⟩|⟨_,hd⟩
     .rw[h4]at hd
      simp at hd
     .exact⟨h1,h2,rfl,h4,hd⟩
    .rw[if_neg h4]at h
     exact absurd h h4
  .rw[if_neg h2]at h
   exact absurd h h2
 .rw[if_neg h1]at h
  exact absurd h h1
theorem qt7{old now:qd}(h:(vn old now).1=.no):(vg old (vn old now).2).1=.no∧(vg old (vn old now).2).2=xd (jp (ofF (itsE old)) (vn old now).2.b).2:=by
 obtain⟨h1,h2,h3,h4,_⟩:=zdh h
 have hf:=congrArg PatV.fr h3
 have ht:=congrArg PatV.to' h3
 dsimp only at hf ht
 unfold vg
 rw[if_pos h1,if_pos hf.symm,if_pos h4,if_pos ht.symm]
 exact⟨rfl,rfl⟩
end Go.Pl
namespace Go.Pl
open Go Go.Proofs Go.Av Go.Proofs.YtapblfabkbdgcaaGreatDoor
theorem qr2(x y:BitVec 32):(x.toNat:Int)=y.toNat↔x=y:=by
 constructor
 .intro h
  exact BitVec.eq_of_toNat_eq Om
 .rintro rfl
  rfl
theorem qd6(C:Int):∀(ws:List Int)(S:List (Int×List Fld))(R:List (List Fld))(bh nx:Int),(∀s∈S,0<=s.1∧s.1<=C)->0<=bh->bh<=C->0<=nx->nx+ws.length<=C->∀x∈zq ws S R bh nx,0<=x.id∧x.id<=C
 | [],_,_,_,_,_,_,_,_,_,x,hx=>by simp[zq]at hx
 |w::ws,S,R,bh,nx,hS,b0,b1,n0,n1,x,hx=>by
  have hT:∀s∈S.tail,0<=s.1∧s.1<=C:=λs hs=>hS s (List.mem_of_mem_tail hs)
  have hh:0<=(S.headD (0,[])).1∧(S.headD (0,[])).1<=C:=by
   cases S with
   |nil=>simp;omega
   |cons s r=>exact hS s Sx
  simp only[Qe]at n1
  rw[zq]at hx
  split at hx
  .rcases Qo.1 hx with rfl|hx
   .exact⟨b0,b1⟩
   .exact qd6 C ws S R.tail nx (nx+1) hS n0 Om Om Om x hx
  .split at hx
   .rcases Qo.1 hx with rfl|hx
    .exact hh
    .exact qd6 C ws S.tail R bh nx hT b0 b1 n0 Om x hx
   .split at hx
    .rcases Qo.1 hx with rfl|hx
     .exact hh
     .exact qd6 C ws S.tail R.tail _ nx hT hh.1 hh.2 n0 Om x hx
    .exact qd6 C ws S.tail R.tail _ nx hT hh.1 hh.2 n0 Om x hx
theorem qzg{α:Type}[DecidableEq α](a b:List α):∀n i j:Nat,(wayB a b n i j).length<=n
 |0,_,_=>by simp[wayB]
 |n+1,i,j=>by
  rw[wayB]
  split
  .simp
  .have:=qzg a b n (if wj a b i j=4 then i else i-1) (if wj a b i j=3 then j else j-1)
   simp only[Qe]
   omega
theorem qhi{α:Type}[DecidableEq α](a b:List α):(wayF a b).length<=a.length+b.length:=by
 unfold wayF
 rw[Zr]
 exact qzg a b _ _ _
structure yg (b:List qq):Prop where
 ed:∀x∈b,EdB x
 len:b.length<=60
 fl:∀x∈b,x.fields.length<1000000
theorem qo4{text:qd}(h:zn text=.no):∀r∈jv (ofF (itsE text)),zo r=.no:=qrn (qx6 h)
theorem zeb(text:qd):∀s∈stzF (ofF (itsE text)).ents,0<=s.1∧s.1<=(ofF (itsE text)).next:=λs hs=>by
 obtain⟨e,he,rfl⟩:=Qp.1 hs
 obtain⟨h1,h2⟩:=Ze.1 he
 have:=of_decide_eq_true h2
 have:=(q61 (itsE text)).lt e h1
 simp only
 omega
theorem qwx{text:qd}{R:List (List Fld)}(hR:∀r∈R,zo r=.no)(hl:R.length<1000000)(h40:(km (ofF (itsE text)) R).length<=40):yg (km (ofF (itsE text)) R):=by
 have hB:=qay text
 have hn0:=hB.nx0
 have hn1:=hB.nx1
 have hg:=qn3 (qm3 (stzF (ofF (itsE text)).ents) R) 0 (ofF (itsE text)).next hR
 have hw:=qhi ((stzF (ofF (itsE text)).ents).map Qk) R
 have hsl:=qbc (ofF (itsE text)).ents
 have hel:=hB.len
 rw[Qi]at hw
 have hi:=qd6 10000000 (wayF ((stzF (ofF (itsE text)).ents).map Qk) R) (stzF (ofF (itsE text)).ents) R 0 (ofF (itsE text)).next (λs hs=>by have:=zeb text s hs;omega) Om Om Om Om
 refine⟨λx hx=>?_,Om,λx hx=>by have:=(qgh (hg x hx)).1;omega⟩
 obtain⟨h1,h2⟩:=qgh (hg x hx)
 obtain⟨h3,h4⟩:=hi x hx
 exact⟨λf hf=>((qqp h1 h2).val f hf).1,Om,Om,Om⟩
end Go.Pl
namespace Go.Proofs.YtapblfabkbdgcaaGreatDoor
open Go Go.Av Go.RowKit Go.Proofs Go.Pl
def qgf(b:List qq):AV:=if 40<b.length then .tu [ji [],errA (.num 1)]else .tu [ji b,errA .no]
theorem qw0(b:List qq):Pure (qgf b):=by
 unfold qgf
 split
 .exact xw (qcz _) (v6 _)
 .exact xw (qcz _) (v6 _)
theorem qqg:EqT Tryz.prog 98:=⟨Kr,Kr,Kr⟩
theorem q2h{α:Type}{a b:List α}{k:Nat}{x y:α}(hx:a[k]?=some x)(hy:b[k]?=some y)(h:x≠y):a≠b:=λe=>by
 subst e
 rw[hx]at hy
 exact h (by simpa using hy)
theorem qdy{α:Type}{a:List α}{k:Nat}{x:α}(hx:a[k]?=some x):a.take (k+1)=a.take k++[x]:=by rw[Xr,hx];rfl
theorem q9i(a b:List Fld)(st:List AObj)(ha:a.length<1000000):ql E 235 [q6 a,q6 b] st λr st'=>r=Bv (decide (a=b))∧st'=st:=by
 refine q5 [.a (q6 a),.a (q6 b)] (qt _) Tryz.func235 rfl rfl (λ_=>rfl) rfl λS0=>?_
 have hma:(a.map fldA).length=a.length:=Sx
 have hmb:(b.map fldA).length=b.length:=Sx
 by_cases hl:a.length=b.length
 .apply qe []
  repeat' (first|apply Qb|(intro h;try exact cDd)|exact cSd|apply qc []|refine exr ?_|refine qf ?_)
  refine zl (X:=Nat) (λk=>⟨[(0,.a (q6 a)),(1,.a (q6 b)),(12,.i a.length),(13,.i k)],[],0⟩) (λk=>k<=a.length∧a.take k=b.take k) (λk=>a.length-k) 0 ⟨Om,Sx⟩ ?_ ?_
  .skip
   repeat' (first|apply Qb|(intro h;try exact cDd)|exact cSd|apply qc []|refine exr ?_|refine qf ?_)
   all_goals first|rfl|(simp;done)
  .rintro k ⟨hk,ht⟩
   by_cases hkn:k<a.length
   .have hx:a[k]?=some a[k]:=Qc hkn
    have hy:b[k]?=some (b[k]'(by omega)):=Qc Om
    have hxm:(a.map fldA)[k]?=some (fldA a[k]):=by rw[Qd,hx];rfl
    have hym:(b.map fldA)[k]?=some (fldA (b[k]'(by omega))):=by rw[Qd,hy];rfl
    have h1:=qdy hx
    have h2:=qdy hy
    generalize a[k]=x at hx hxm h1
    generalize b[k]'(by omega)=y at hy hym h2
    by_cases hxy:x=y
    .subst hxy
     have hq:x.1=x.1∧x.2=x.2∧True:=⟨rfl,rfl,trivial⟩
     apply qe []
     repeat' (first|apply Qb|(intro h;try exact cDd)|(refine Qa (k) ⟨Om,_,hxm,?_⟩)|(refine Qa (k) ⟨Om,_,hym,?_⟩)|(refine qvu qqg rfl rfl rfl rfl rfl ?_)|exact absurd hq (by assumption)|(refine Qa (k+1) ⟨⟨Om,by rw[h1,h2,ht]⟩,Om,?_⟩)|exact cSd|apply qc []|refine exr ?_|refine qf ?_)
     all_goals first|rfl|(simp;done)
    .have hne:=q2h hx hy hxy
     rw[decide_eq_false hne]
     have hq:¬(x.1=y.1∧x.2=y.2∧True):=λh=>hxy (Ym h.1 h.2.1)
     apply qe []
     repeat' (first|apply Qb|(intro h;try exact cDd)|(refine Qa (k) ⟨Om,_,hxm,?_⟩)|(refine Qa (k) ⟨Om,_,hym,?_⟩)|(refine qvu qqg rfl rfl rfl rfl rfl ?_)|exact absurd (by assumption) hq|exact absurd hq (by assumption)|exact cSd|apply qc []|refine exr ?_|refine qf ?_)
     all_goals first|rfl|(simp;done)
   .have hkn:k=a.length:=by omega
    subst hkn
    rw[Qn,hl,Qn]at ht
    rw[decide_eq_true ht]
    apply qe []
    repeat' (first|apply Qb|(intro h;try exact cDd)|exact cSd|apply qc []|refine exr ?_|refine qf ?_)
 .rw[decide_eq_false λe=>hl (congrArg Xf e)]
  apply qe []
  repeat' (first|apply Qb|(intro h;try exact cDd)|exact cSd|apply qc []|refine exr ?_|refine qf ?_)
theorem q1n(a b:List Fld)(st:List AObj)(ha:a.length<1000000):ql E 216 [q6 a,q6 b] st λr st'=>r=Bv (decide (a=b))∧st'=st:=by
 refine q5 [.a (q6 a),.a (q6 b)] (qt _) Tryz.func216 rfl rfl (λ_=>rfl) rfl λS0=>?_
 have h:=λst=>q9i a b st ha
 apply qe []
 repeat' (first|apply Qb|(intro h;try exact cDd)|exact⟨Tryz.call235⟩|refine cpe h ?_|exact cSd|apply qc []|refine exr ?_|refine qf ?_)
@[reducible] def wy (a b : List (List Fld)) (i : Nat) : List AV := (qfj a b i (b.length + 1)).map qas
@[reducible] def tblH (a b : List (List Fld)) (i j : Nat) : List (Nat × Option SR) := [(0, some (.cells 257 [.a (jy a), .a (jy b), .tp 1])), (1, some (.rows 111 (wy a b i) [.tp 2])), (2, some (.own 1 3 ((x5 a b i (b.length + 1) j).map fun n => Iv n)))]
theorem qb1(a b:List (List Fld))(i:Nat):(wy a b i).length=i:=by simp[wy,q4x]
theorem qe9(a b:List (List Fld)){i k:Nat}(h:k<i):(wy a b i)[k]?=some (qas (rowF a b k (b.length+1))):=by
 unfold wy
 rw[Qd,q4w a b (b.length+1) h]
 rfl
theorem qtg(a b:List (List Fld)){i k:Nat}(h:k<i)(cs:List SV):((wy a b i).map SV.a++cs)[k]?=some (.a (qas (rowF a b k (b.length+1)))):=by
 rw[Qj (by rw[Qi,qb1];exact h),Qd,qe9 a b h]
 rfl
theorem qlc(a b:List (List Fld))(i:Nat)(v:SV):((wy a b i).map SV.a++[v])[i]?=some v:=by
 rw[Qv (by rw[Qi,qb1];omega),Qi,qb1,Zo]
 rfl
theorem xx(a b:List (List Fld))(i:Nat){n j:Nat}(h:j<n):((rowF a b i n).map λn=>Iv n)[j]?=some (Iv (zi a b i j)):=by
 rw[Qd,qyv a b i h]
 rfl
theorem q7e(a b:List (List Fld))(i:Nat){n j k:Nat}(h:k<j):((x5 a b i n j).map λn=>Iv n)[k]?=some (Iv (zi a b i k)):=by
 rw[Qd,q7f a b i h]
 rfl
theorem qug(a b:List (List Fld))(i:Nat){n j:Nat}(h:j<=n):((x5 a b i n j).map λn=>Iv n).length=n:=by rw[Qi,q7g a b i h]
theorem qcb{R:List (List Fld)}{k:Nat}(h:k<R.length):(R.map q6)[k]?=some (q6 R[k]):=by rw[Qd,Qc h];rfl
theorem xb(a b:List (List Fld))(i j:Nat):0<=zi a b i j∧zi a b i j<=(i:Int)+j:=by
 have:=q1k a b i j
 unfold zi
 omega
theorem zc8(a b:List (List Fld))(i j:Nat)(hi:i<=a.length)(hj:j<=b.length)(ha:a.length<1000000)(hb:b.length<1000000)(hf:∀r∈a,r.length<1000000):j9 E 183 [.bx 0 0,.i i,.i j] 3 (hpF (tblH a b i j)) ⟨.i (zi a b i j),jt (tblH a b i j),tblH a b i j++ku (tblH a b i j),3⟩:=by
 refine v8 [.bx 0 0,.i i,.i j] (tblH a b i j) 3 (.i (zi a b i j)) (tblH a b i j) 3 Tryz.func183 rfl rfl rfl rfl λS F ρ=>?_
 cases i with
 |zero=>
  rw[qse]
  apply qe []
  repeat' (first|apply Qb|(intro h;try exact cDd)|exact cSd|apply qc []|refine exr ?_|refine qf ?_)
  all_goals first|rfl|assumption|(simp;done)
 |succ i=>
  cases j with
  |zero=>
   rw[qek]
   apply qe []
   repeat' (first|apply Qb|(intro h;try exact cDd)|exact cSd|apply qc []|refine exr ?_|refine qf ?_)
   all_goals first|rfl|assumption|(simp;done)
  |succ j=>
   have hx:=qcb (R:=a) (k:=i) Om
   have hy:=qcb (R:=b) (k:=j) Om
   have hs:=λst=>q1n (a[i]'(by omega)) (b[j]'(by omega)) st (hf _ (Zl _))
   have hr1:=qtg a b (show i<i+1 by omega) [.tp 2]
   have hr2:=qlc a b (i+1) (.tp 2)
   have hl:=qb1 a b (i+1)
   have g1:=xx a b i (n:=b.length+1) (j:=j) Om
   have g2:=xx a b i (n:=b.length+1) (j:=j+1) Om
   have g3:=q7e a b (i+1) (n:=b.length+1) (j:=j+1) (k:=j) Om
   have gl:=qug a b (i+1) (n:=b.length+1) (j:=j+1) Om
   have p1:=xb a b i j
   have p2:=xb a b i (j+1)
   have p3:=xb a b (i+1) j
   have hsame:=@qp6 _ _ a b i j
   have hoth:=@qni _ _ a b i j
   have ei:a[i]?=some (a[i]'(by omega)):=Qc Om
   have ej:b[j]?=some (b[j]'(by omega)):=Qc Om
   rw[ei,ej,Qg]at hsame hoth
   generalize a[i]'(by omega)=x at *
   generalize b[j]'(by omega)=y at *
   by_cases hxy:x=y
   .rw[decide_eq_true hxy]at hs
    rw[hsame hxy]
    apply qe []
    repeat' (first|apply Qb|(intro h;try exact cDd)|(refine Qa (i) ⟨Om,_,hx,?_⟩)|(refine Qa (j) ⟨Om,_,hy,?_⟩)|(refine Qa (j) ⟨Om,_,g1,?_⟩)|exact⟨Tryz.call216⟩|refine cpe hs ?_|(refine xk (i:=i) rfl rfl rfl (ix64 Om) rfl rfl Om ?_)|(refine xl (i:=i) rfl rfl rfl rfl hr1 rfl ?_)|exact cSd|apply qc []|refine exr ?_|refine qf ?_)
    all_goals first|rfl|assumption|(simp;done)
   .rw[decide_eq_false hxy]at hs
    rw[hoth hxy]
    apply qe []
    repeat' (first|apply Qb|(intro h;try exact cDd)|(refine Qa (i) ⟨Om,_,hx,?_⟩)|(refine Qa (j) ⟨Om,_,hy,?_⟩)|(refine Qa (j) ⟨Om,_,g1,?_⟩)|(refine Qa ((j+1)) ⟨Om,_,g2,?_⟩)|exact⟨Tryz.call216⟩|refine cpe hs ?_|(refine xk (i:=i) rfl rfl rfl (ix64 Om) rfl rfl Om ?_)|(refine xl (i:=i) rfl rfl rfl rfl hr1 rfl ?_)|(refine xk (i:=i+1) rfl rfl rfl (ix64 Om) rfl rfl (by simp only[Qe,Qh];omega) ?_)|(refine xl (i:=i+1) rfl rfl rfl rfl hr2 rfl ?_)|(refine qdg (i:=j) rfl rfl rfl (ix64 Om) rfl rfl Om ?_)|(refine qhc (i:=j) (j:=0) rfl rfl rfl rfl g3 rfl rfl ?_)|(refine zdi rfl rfl rfl rfl rfl rfl ?_)|exact cSd|apply qc []|refine exr ?_|refine qf ?_)
    all_goals first|rfl|assumption|(simp;done)|omega
theorem qp7(a b:List (List Fld))(i:Nat):wy a b (i+1)=wy a b i++[qas (rowF a b i (b.length+1))]:=by
 unfold wy
 rw[q02,Ya]
 rfl
@[reducible] def tblA (a b : List (List Fld)) : AV := .pp [jy a, jy b, .sl 1 (wy a b (a.length + 1)) none]
theorem za5(a b:List (List Fld)):Pure (tblA a b):=qss λx hx=>by
 simp only[Qo,Zk,or_false]at hx
 rcases hx with rfl|rfl|rfl
 .exact qgb _
 .exact qgb _
 .refine y7 λx hx=>?_
  obtain⟨f,_,rfl⟩:=Qp.1 hx
  intro y hy
  simp only[AV.cells,Qq]at hy
  subst hy
  exact yj _
set_option maxHeartbeats 2000000 in
theorem za3(a b:List (List Fld))(st:List AObj)(ha:a.length<1000000)(hb:b.length<1000000)(hf:∀r∈a,r.length<1000000):ql E 160 [jy a,jy b] st λr st'=>r=tblA a b∧st'=st:=by
 refine qhd [.a (jy a),.a (jy b)] (za5 a b) Tryz.func160 rfl rfl (λ_=>rfl) rfl λS0=>?_
 have hma:(a.map q6).length=a.length:=Sx
 have hmb:(b.map q6).length=b.length:=Sx
 apply qe [11]
 repeat' (first|apply Qb|(intro h;try exact cDd)|exact cSd|apply qc [11]|refine exr ?_|refine qf ?_)
 refine zl (X:=Nat) (λi=>⟨[(1,.a (jy b)),(5,.bx 0 0),(14,.i (a.length+1)),(15,.i i)],[(0,some (.cells 257 [.a (jy a),.a (jy b),.tp 1])),(1,some (.rows 111 (wy a b i) []))],2⟩) (λi=>i<=a.length+1) (λi=>a.length+1-i) 0 Om ?_ ?_
 .skip
  repeat' (first|apply Qb|(intro h;try exact cDd)|exact cSd|apply qc []|refine exr ?_|refine qf ?_)
  all_goals first|rfl|(simp[SV.evs,SV.rens,SV.ren,SV.ev];done)
 .rintro i hi
  have hcl:=qb1 a b i
  have hcn:=qlc a b i (.tp 2)
  have hp0:((Xg (b.length+1) (Value.int .i64 0)).map AV.v)=(x5 a b i (b.length+1) 0).map λn=>Iv n:=by rw[q4a];simp
  by_cases hin:i<a.length+1
  .apply qe []
   repeat' (first|apply Qb|(intro h;try exact cDd)|apply q7w|(refine locX (q98 (n:=b.length) rfl (λ_=>congrArg (λx:Int=>Iv x) Om) rfl (λ_=>congrArg (λx:Int=>Iv x) Om) rfl rfl rfl rfl rfl rfl (show 8*(b.length+1)<=281474976710656 by omega) Om ?_))|(refine locX (q4o rfl rfl rfl rfl rfl rfl ?_))|(refine locX (q0x rfl rfl rfl rfl rfl Sx rfl rfl rfl rfl (by simp only[Qe,Qh];omega) ?_))|(refine locK ?_)|exact cSd|apply qc []|refine exr ?_|refine qf ?_)
   refine zl (X:=Nat) (λj=>⟨[(1,.a (jy b)),(5,.bx 0 0),(6,.i i),(14,.i (a.length+1)),(15,.i i),(26,.tp 2),(33,.i (b.length+1)),(34,.i j)],tblH a b i j,3⟩) (λj=>j<=b.length+1) (λj=>b.length+1-j) 0 Om ?_ ?_
   .skip
    repeat' (first|apply Qb|(intro h;try exact cDd)|exact cSd|apply qc []|refine exr ?_|refine qf ?_)
    all_goals first|rfl|(rw[hp0];done)|(simp[SV.evs,SV.rens,SV.ren,SV.ev];done)
   .rintro j hj
    have hpl:=qug a b i (n:=b.length+1) (j:=j) Om
    by_cases hjn:j<b.length+1
    .have hlt:=zc8 a b i j Om Om ha hb hf
     have hz:((x5 a b i (b.length+1) j).map λn=>Iv n)[j]?=some (Iv 0):=by
      unfold x5
      rw[Qd,Qv (by rw[qdi];omega),qdi,Zo,List.getElem?_replicate,if_pos Om]
      rfl
     have hs:((x5 a b i (b.length+1) j).map λn=>Iv n).set j (Iv (zi a b i j))=(x5 a b i (b.length+1) (j+1)).map λn=>Iv n:=by
      rw[<-q7h a b i hjn,Zy]
     apply qe []
     repeat' (first|apply Qb|(intro h;try exact cDd)|(refine xk (i:=i) rfl rfl rfl rfl rfl rfl (by simp only[Qe,Qh];omega) ?_)|(refine xl (i:=i) rfl rfl rfl rfl hcn rfl ?_)|exact⟨Tryz.call183⟩|(refine Qa _ ⟨zb4 hlt ⟨rfl,rfl,rfl,trivial⟩,?_⟩)|(refine qdg (i:=j) rfl rfl rfl rfl rfl rfl Om ?_)|(refine qib (i:=j) (j:=0) (z:=Iv 0) (z':=Iv (zi a b i j)) (u:=Iv (zi a b i j)) rfl rfl (λ_=>rfl) rfl rfl rfl hz rfl rfl ?_)|(refine Qa (j+1) ⟨Om,Om,?_⟩)|exact cSd|apply qc []|refine exr ?_|refine qf ?_)
     all_goals first|rfl|(rw[hs];done)|(simp[SV.evs,SV.rens,SV.ren,SV.ev];done)
    .have hjn:j=b.length+1:=by omega
     subst hjn
     have hne:((x5 a b i (b.length+1) (b.length+1)).map λn=>Iv n)≠[]:=λh=>by
      rw[h]at hpl
      simp at hpl
     have hsn:wy a b (i+1)=wy a b i++[.sl 1 ((x5 a b i (b.length+1) (b.length+1)).map λn=>Iv n) none]:=by rw[qp7,q39]
     refine zav (b:=1) (r:=2) rfl rfl hne ?_
     apply qe []
     repeat' (first|apply Qb|(intro h;try exact cDd)|(refine Qa (i+1) ⟨Om,Om,?_⟩)|exact cSd|apply qc []|refine exr ?_|refine qf ?_)
     all_goals first|rfl|(rw[hsn];done)|(simp[SV.evs,SV.rens,SV.ren,SV.ev];done)
  .have hin:i=a.length+1:=by omega
   subst hin
   refine qn5 (b:=1) rfl ?_
   apply qe []
   repeat' (first|apply Qb|(intro h;try exact cDd)|exact cSd|apply qc []|refine exr ?_|refine qf ?_)
set_option maxHeartbeats 4000000 in
theorem zfi(a b:List (List Fld))(i j:Nat)(st:List AObj)(h0:¬(i=0∧j=0))(hi:i<=a.length)(hj:j<=b.length)(ha:a.length<1000000)(hb:b.length<1000000)(hf:∀r∈a,r.length<1000000):ql E 184 [tblA a b,Iv i,Iv j] st λr st'=>r=Iv (wj a b i j)∧st'=st:=by
 refine q5 [.a (tblA a b),.i i,.i j] (qt _) Tryz.func184 rfl rfl (λ_=>rfl) rfl λS0=>?_
 rw[<-qxq]
 have hr0:=qe9 a b (show i<a.length+1 by omega)
 have g0:=xx a b i (n:=b.length+1) (j:=j) Om
 have p0:=xb a b i j
 cases i with
 |zero=>
  have hn:qbt 0 j (decide (a[0-1]?=b[j-1]?)) (zi a b (0-1) (j-1)) (zi a b (0-1) j) (zi a b 0 j)=4:=by simp[qbt]
  rw[hn]
  apply qe []
  repeat' (first|apply Qb|(intro h;try exact cDd)|(refine Qa (0) ⟨Om,_,hr0,?_⟩)|(refine Qa (j) ⟨Om,_,g0,?_⟩)|exact cSd|apply qc []|refine exr ?_|refine qf ?_)
  all_goals first|rfl|(simp;done)
 |succ i=>
  simp only[Zh]
  have hr1:=qe9 a b (show i<a.length+1 by omega)
  have g1:=xx a b i (n:=b.length+1) (j:=j) Om
  have p1:=xb a b i j
  cases j with
  |zero=>
   have e1:zi a b (i+1) 0=zi a b i 0+1:=by rw[qek,qek];omega
   have hn:qbt (i+1) 0 (decide (a[i]?=b[0-1]?)) (zi a b i (0-1)) (zi a b i 0) (zi a b (i+1) 0)=3:=by
    unfold qbt
    rw[if_neg Om,if_neg Om,if_pos ⟨Om,Om⟩]
   rw[hn]
   generalize zi a b (i+1) 0=c0 at *
   generalize zi a b i 0=c1 at *
   apply qe []
   repeat' (first|apply Qb|(intro h;try exact cDd)|(refine Qa ((i+1)) ⟨Om,_,hr0,?_⟩)|(refine Qa (i) ⟨Om,_,hr1,?_⟩)|(refine Qa (0) ⟨Om,_,g0,?_⟩)|(refine Qa (0) ⟨Om,_,g1,?_⟩)|exact cSd|apply qc []|refine exr ?_|refine qf ?_)
   all_goals first|rfl|(simp;done)|omega
  |succ j=>
   simp only[Zh]
   have hx:=qcb (R:=a) (k:=i) Om
   have hy:=qcb (R:=b) (k:=j) Om
   have hs:=λst=>q1n (a[i]'(by omega)) (b[j]'(by omega)) st (hf _ (Zl _))
   have g2:=xx a b i (n:=b.length+1) (j:=j) Om
   have p2:=xb a b i j
   have ei:a[i]?=some (a[i]'(by omega)):=Qc Om
   have ej:b[j]?=some (b[j]'(by omega)):=Qc Om
   rw[ei,ej]
   simp only[Qg]
   generalize a[i]'(by omega)=x at *
   generalize b[j]'(by omega)=y at *
   generalize zi a b (i+1) (j+1)=c0 at *
   generalize zi a b i (j+1)=c1 at *
   generalize zi a b i j=c2 at *
   have hl:∀q:Bool,qbt (i+1) (j+1) q c2 c1 c0=if q=true∧c2=c0 then 1 else if c2=c0-1 then 2 else if c1=c0-1 then 3 else 4:=λq=>by
    unfold qbt
    simp
   rw[hl]
   by_cases hxy:x=y
   .rw[decide_eq_true hxy]at hs⊢
    simp only[true_and]
    by_cases h1:c2=c0
    .rw[if_pos h1]
     apply qe []
     repeat' (first|apply Qb|(intro h;try exact cDd)|(refine Qa ((i+1)) ⟨Om,_,hr0,?_⟩)|(refine Qa (i) ⟨Om,_,hr1,?_⟩)|(refine Qa ((j+1)) ⟨Om,_,g0,?_⟩)|(refine Qa ((j+1)) ⟨Om,_,g1,?_⟩)|(refine Qa (j) ⟨Om,_,g2,?_⟩)|(refine Qa (i) ⟨Om,_,hx,?_⟩)|(refine Qa (j) ⟨Om,_,hy,?_⟩)|exact⟨Tryz.call216⟩|refine cpe hs ?_|exact cSd|apply qc []|refine exr ?_|refine qf ?_)
     all_goals first|rfl|(simp;done)|omega
    .rw[if_neg h1]
     by_cases h2:c2=c0-1
     .rw[if_pos h2]
      apply qe []
      repeat' (first|apply Qb|(intro h;try exact cDd)|(refine Qa ((i+1)) ⟨Om,_,hr0,?_⟩)|(refine Qa (i) ⟨Om,_,hr1,?_⟩)|(refine Qa ((j+1)) ⟨Om,_,g0,?_⟩)|(refine Qa ((j+1)) ⟨Om,_,g1,?_⟩)|(refine Qa (j) ⟨Om,_,g2,?_⟩)|(refine Qa (i) ⟨Om,_,hx,?_⟩)|(refine Qa (j) ⟨Om,_,hy,?_⟩)|exact⟨Tryz.call216⟩|refine cpe hs ?_|exact cSd|apply qc []|refine exr ?_|refine qf ?_)
      all_goals first|rfl|(simp;done)|omega
     .rw[if_neg h2]
      by_cases h3:c1=c0-1
      .rw[if_pos h3]
       apply qe []
       repeat' (first|apply Qb|(intro h;try exact cDd)|(refine Qa ((i+1)) ⟨Om,_,hr0,?_⟩)|(refine Qa (i) ⟨Om,_,hr1,?_⟩)|(refine Qa ((j+1)) ⟨Om,_,g0,?_⟩)|(refine Qa ((j+1)) ⟨Om,_,g1,?_⟩)|(refine Qa (j) ⟨Om,_,g2,?_⟩)|(refine Qa (i) ⟨Om,_,hx,?_⟩)|(refine Qa (j) ⟨Om,_,hy,?_⟩)|exact⟨Tryz.call216⟩|refine cpe hs ?_|exact cSd|apply qc []|refine exr ?_|refine qf ?_)
       all_goals first|rfl|(simp;done)|omega
      .rw[if_neg h3]
       apply qe []
       repeat' (first|apply Qb|(intro h;try exact cDd)|(refine Qa ((i+1)) ⟨Om,_,hr0,?_⟩)|(refine Qa (i) ⟨Om,_,hr1,?_⟩)|(refine Qa ((j+1)) ⟨Om,_,g0,?_⟩)|(refine Qa ((j+1)) ⟨Om,_,g1,?_⟩)|(refine Qa (j) ⟨Om,_,g2,?_⟩)|(refine Qa (i) ⟨Om,_,hx,?_⟩)|(refine Qa (j) ⟨Om,_,hy,?_⟩)|exact⟨Tryz.call216⟩|refine cpe hs ?_|exact cSd|apply qc []|refine exr ?_|refine qf ?_)
       all_goals first|rfl|(simp;done)|omega
   .rw[decide_eq_false hxy]at hs⊢
    rw[if_neg Sx]
    by_cases h2:c2=c0-1
    .rw[if_pos h2]
     apply qe []
     repeat' (first|apply Qb|(intro h;try exact cDd)|(refine Qa ((i+1)) ⟨Om,_,hr0,?_⟩)|(refine Qa (i) ⟨Om,_,hr1,?_⟩)|(refine Qa ((j+1)) ⟨Om,_,g0,?_⟩)|(refine Qa ((j+1)) ⟨Om,_,g1,?_⟩)|(refine Qa (j) ⟨Om,_,g2,?_⟩)|(refine Qa (i) ⟨Om,_,hx,?_⟩)|(refine Qa (j) ⟨Om,_,hy,?_⟩)|exact⟨Tryz.call216⟩|refine cpe hs ?_|exact cSd|apply qc []|refine exr ?_|refine qf ?_)
     all_goals first|rfl|(simp;done)|omega
    .rw[if_neg h2]
     by_cases h3:c1=c0-1
     .rw[if_pos h3]
      apply qe []
      repeat' (first|apply Qb|(intro h;try exact cDd)|(refine Qa ((i+1)) ⟨Om,_,hr0,?_⟩)|(refine Qa (i) ⟨Om,_,hr1,?_⟩)|(refine Qa ((j+1)) ⟨Om,_,g0,?_⟩)|(refine Qa ((j+1)) ⟨Om,_,g1,?_⟩)|(refine Qa (j) ⟨Om,_,g2,?_⟩)|(refine Qa (i) ⟨Om,_,hx,?_⟩)|(refine Qa (j) ⟨Om,_,hy,?_⟩)|exact⟨Tryz.call216⟩|refine cpe hs ?_|exact cSd|apply qc []|refine exr ?_|refine qf ?_)
      all_goals first|rfl|(simp;done)|omega
     .rw[if_neg h3]
      apply qe []
      repeat' (first|apply Qb|(intro h;try exact cDd)|(refine Qa ((i+1)) ⟨Om,_,hr0,?_⟩)|(refine Qa (i) ⟨Om,_,hr1,?_⟩)|(refine Qa ((j+1)) ⟨Om,_,g0,?_⟩)|(refine Qa ((j+1)) ⟨Om,_,g1,?_⟩)|(refine Qa (j) ⟨Om,_,g2,?_⟩)|(refine Qa (i) ⟨Om,_,hx,?_⟩)|(refine Qa (j) ⟨Om,_,hy,?_⟩)|exact⟨Tryz.call216⟩|refine cpe hs ?_|exact cSd|apply qc []|refine exr ?_|refine qf ?_)
      all_goals first|rfl|(simp;done)|omega
end Go.Proofs.YtapblfabkbdgcaaGreatDoor
namespace Go.Pl
open Go Go.Proofs
def revP(ns:List Int)(i:Nat):List Int:=(Xy ns.length).map λk=>if k<i∨ns.length-i<=k then ns.getD (ns.length-1-k) 0 else ns.getD k 0
theorem qes(ns:List Int)(i:Nat):(revP ns i).length=ns.length:=by simp[revP]
theorem qer(ns:List Int)(i:Nat){k:Nat}(h:k<ns.length):(revP ns i)[k]?=some (if k<i∨ns.length-i<=k then ns.getD (ns.length-1-k) 0 else ns.getD k 0):=by
 unfold revP
 rw[Qd,Zq h]
 rfl
theorem q7q(ns:List Int):revP ns 0=ns:=by
 refine Zw λk=>?_
 by_cases h:k<ns.length
 .rw[qer ns 0 h,if_neg Om,Qc h,Zd,Qc h]
  rfl
 .rw[Qr (by rw[qes];omega),Qr Om]
theorem q7p(ns:List Int){i j:Nat}(h:i<j)(hj:i+j+1=ns.length):((revP ns i).set i (ns.getD j 0)).set j (ns.getD i 0)=revP ns (i+1):=by
 refine Zw λk=>?_
 by_cases hk:k<ns.length
 .rw[qer ns (i+1) hk,Xt,Xt,qer ns i hk]
  simp only[Zp,qes]
  by_cases e1:j=k
  .subst e1
   rw[if_pos rfl,if_pos hk,if_pos Om,show ns.length-1-j=i by omega]
  .rw[if_neg e1]
   by_cases e2:i=k
   .subst e2
    rw[if_pos rfl,if_pos hk,if_pos Om,show ns.length-1-i=j by omega]
   .rw[if_neg e2]
    by_cases c:k<i∨ns.length-i<=k
    .rw[if_pos c,if_pos Om]
    .rw[if_neg c,if_neg Om]
 .rw[Qr (by simp[qes];omega),Qr (by rw[qes];omega)]
theorem zas(ns:List Int){i:Nat}(h:ns.length<=2*i+1):revP ns i=ns.reverse:=by
 refine Zw λk=>?_
 by_cases hk:k<ns.length
 .rw[qer ns i hk,List.getElem?_reverse hk,Qc (show ns.length-1-k<ns.length by omega)]
  by_cases c:k<i∨ns.length-i<=k
  .rw[if_pos c,Zd,Qc (show ns.length-1-k<ns.length by omega)]
   rfl
  .have e:ns.length-1-k=k:=by omega
   rw[if_neg c,Zd,Qc hk]
   simp only[e]
   rfl
 .rw[Qr (by rw[qes];omega),Qr So]
end Go.Pl
namespace Go.Proofs.YtapblfabkbdgcaaGreatDoor
open Go Go.Av Go.RowKit Go.Proofs Go.Pl
theorem zgo(ns:List Int)(hl:ns.length<1000000000):j9 E 185 [.tp 0] 1 (hpF [(0,some (.own 1 3 (ns.map λn=>Iv n)))]) ⟨.tu [],jt [(0,some (SR.own 1 3 (ns.map λn=>Iv n)))],[(0,some (.own 1 3 (ns.reverse.map λn=>Iv n)))]++ku [(0,some (SR.own 1 3 (ns.map λn=>Iv n)))],1⟩:=by
 refine v8 [.tp 0] [(0,some (.own 1 3 (ns.map λn=>Iv n)))] 1 (.tu []) [(0,some (.own 1 3 (ns.reverse.map λn=>Iv n)))] 1 Tryz.func185 rfl rfl rfl rfl λS F ρ=>?_
 have hml:(ns.map λn=>Iv n).length=ns.length:=Sx
 apply qe []
 repeat' (first|apply Qb|(intro h;try exact cDd)|exact cSd|apply qc []|refine exr ?_|refine qf ?_)
 refine zl (X:=Nat) (λi=>⟨[(0,.tp 0),(2,.i i),(3,.i ((ns.length:Int)-1-i))],[(0,some (.own 1 3 ((revP ns i).map λn=>Iv n)))],1⟩) (λi=>2*i<=ns.length+1) (λi=>ns.length-i) 0 Om ?_ ?_
 .skip
  repeat' (first|apply Qb|(intro h;try exact cDd)|exact cSd|apply qc []|refine exr ?_|refine qf ?_)
  all_goals first|rfl|(rw[q7q];done)|(rw[hml];simp;done)|(simp;done)
 .rintro i hi
  have hlen:((revP ns i).map λn=>Iv n).length=ns.length:=by rw[Qi,qes]
  by_cases h:2*i+1<ns.length
  .obtain⟨j,hj⟩:∃j,i+j+1=ns.length:=⟨ns.length-1-i,Om⟩
   have g1:((revP ns i).map λn=>Iv n)[i]?=some (Iv (ns.getD i 0)):=by rw[Qd,qer ns i Om,if_neg Om];rfl
   have g2:((revP ns i).map λn=>Iv n)[j]?=some (Iv (ns.getD j 0)):=by rw[Qd,qer ns i Om,if_neg Om];rfl
   have g3:(((revP ns i).map λn=>Iv n).set i (Iv (ns.getD j 0)))[j]?=some (Iv (ns.getD j 0)):=by rw[Ql Om];exact g2
   have hs:(((revP ns i).map λn=>Iv n).set i (Iv (ns.getD j 0))).set j (Iv (ns.getD i 0))=(revP ns (i+1)).map λn=>Iv n:=by
    rw[<-q7p ns (by omega:i<j) hj,Zy,Zy]
   apply qe []
   repeat' (first|apply Qb|(intro h;try exact cDd)|(refine qdg (i:=i) rfl rfl rfl rfl rfl rfl (by first|omega|(rw[Zp];omega)) ?_)|(refine qdg (i:=j) rfl rfl rfl (ix64 Om) rfl rfl (by first|omega|(rw[Zp];omega)) ?_)|(refine qhc (i:=i) (j:=0) rfl rfl rfl rfl g1 rfl rfl ?_)|(refine qhc (i:=j) (j:=0) rfl rfl rfl rfl g2 rfl rfl ?_)|(refine qib (i:=i) (j:=0) (z:=Iv (ns.getD i 0)) (z':=Iv (ns.getD j 0)) (u:=Iv (ns.getD j 0)) rfl rfl (λ_=>rfl) rfl rfl rfl g1 rfl rfl ?_)|(refine qib (i:=j) (j:=0) (z:=Iv (ns.getD j 0)) (z':=Iv (ns.getD i 0)) (u:=Iv (ns.getD i 0)) rfl rfl (λ_=>rfl) rfl rfl rfl g3 rfl rfl ?_)|(refine Qa (i+1) ⟨Om,Om,?_⟩)|exact cSd|apply qc []|refine exr ?_|refine qf ?_)
   all_goals first|rfl|(rw[hs];done)|exact congrArg (λn:Int=>Iv n) Om|(simp;done)
  .rw[zas ns Om]
   apply qe []
   repeat' (first|apply Qb|(intro h;try exact cDd)|exact cSd|apply qc []|refine exr ?_|refine qf ?_)
   all_goals first|rfl|(simp;done)
set_option maxHeartbeats 1000000 in
theorem zgt(a b:List (List Fld))(st:List AObj)(ha:a.length<1000000)(hb:b.length<1000000)(hf:∀r∈a,r.length<1000000):ql E 161 [tblA a b] st λr st'=>r=qas (wayF a b)∧st'=st:=by
 refine qhd [.a (tblA a b)] (yj _) Tryz.func161 rfl rfl (λ_=>rfl) rfl λS0=>?_
 have hma:(a.map q6).length=a.length:=Sx
 have hmb:(b.map q6).length=b.length:=Sx
 have hwl:=qhi a b
 apply qe []
 repeat' (first|apply Qb|(intro h;try exact cDd)|exact cSd|apply qc []|refine exr ?_|refine qf ?_)
 refine zl (X:=List Int×Nat×Nat×Nat) (λ(out,n,i,j)=>⟨[(0,.a (tblA a b)),(3,.tp 0),(4,.i i),(5,.i j)],[(0,some (.own 1 3 (out.map λn=>Iv n)))],1⟩) (λ(out,n,i,j)=>qar a b out n i j) (λ(out,n,i,j)=>i+j) ([],a.length+b.length,a.length,b.length) (quu a b) ?_ ?_
 .skip
  repeat' (first|apply Qb|(intro h;try exact cDd)|exact cSd|apply qc []|refine exr ?_|refine qf ?_)
  all_goals first|rfl|(simp;done)
 .rintro⟨out,n,i,j⟩ hW
  have h1:=hW.hi
  have h2:=hW.hj
  have hol:out.length<=a.length+b.length:=by
   have:=congrArg Xf hW.eq
   rw[Zr,Qf]at this
   omega
  have hml:(out.map λn=>Iv n).length=out.length:=Sx
  by_cases h0:i=0∧j=0
  .obtain⟨rfl,rfl⟩:=h0
   have he:=q2m hW
   have hr:=zgo out Om
   rw[he]at hr
   apply qe []
   repeat' (first|apply Qb|(intro h;try exact cDd)|exact⟨Tryz.call185⟩|(refine jf hr ?_)|exact cSd|apply qc []|refine exr ?_|refine qf ?_)
   all_goals first|rfl|(simp;done)
  .have hc:=λst=>zfi a b i j st h0 h1 h2 ha hb hf
   obtain⟨m,hm,hM⟩:=qzh hW h0
   have hll:=qlo a b i j
   have hlr:=qjy a b i j h0
   rcases qlp a b i j with e|e|e|e
   .rw[e]at hc hM hll hlr
    obtain⟨i,rfl⟩:∃k,i=k+1:=⟨i-1,by have:=hll (by decide);omega⟩
    obtain⟨j,rfl⟩:∃k,j=k+1:=⟨j-1,by have:=hlr (by decide);omega⟩
    have hM:qar a b (out++[1]) m i j:=by simpa using hM
    apply qe []
    repeat' (first|apply Qb|(intro h;try exact cDd)|exact⟨Tryz.call184⟩|refine cpe hc ?_|(refine qf4 (ys:=[Iv 1]) rfl rfl rfl rfl rfl rfl rfl rfl (by simp only[Qe,Qh];omega) rfl ?_)|(refine Qa (out++[1],m,i,j) ⟨hM,by simp only;omega,?_⟩)|exact cSd|apply qc []|refine exr ?_|refine qf ?_)
    all_goals first|rfl|exact congrArg (λn:Int=>Iv n) Om|(simp;done)
   .rw[e]at hc hM hll hlr
    obtain⟨i,rfl⟩:∃k,i=k+1:=⟨i-1,by have:=hll (by decide);omega⟩
    obtain⟨j,rfl⟩:∃k,j=k+1:=⟨j-1,by have:=hlr (by decide);omega⟩
    have hM:qar a b (out++[2]) m i j:=by simpa using hM
    apply qe []
    repeat' (first|apply Qb|(intro h;try exact cDd)|exact⟨Tryz.call184⟩|refine cpe hc ?_|(refine qf4 (ys:=[Iv 2]) rfl rfl rfl rfl rfl rfl rfl rfl (by simp only[Qe,Qh];omega) rfl ?_)|(refine Qa (out++[2],m,i,j) ⟨hM,by simp only;omega,?_⟩)|exact cSd|apply qc []|refine exr ?_|refine qf ?_)
    all_goals first|rfl|exact congrArg (λn:Int=>Iv n) Om|(simp;done)
   .rw[e]at hc hM hll
    obtain⟨i,rfl⟩:∃k,i=k+1:=⟨i-1,by have:=hll (by decide);omega⟩
    have hM:qar a b (out++[3]) m i j:=by simpa using hM
    apply qe []
    repeat' (first|apply Qb|(intro h;try exact cDd)|exact⟨Tryz.call184⟩|refine cpe hc ?_|(refine qf4 (ys:=[Iv 3]) rfl rfl rfl rfl rfl rfl rfl rfl (by simp only[Qe,Qh];omega) rfl ?_)|(refine Qa (out++[3],m,i,j) ⟨hM,by simp only;omega,?_⟩)|exact cSd|apply qc []|refine exr ?_|refine qf ?_)
    all_goals first|rfl|exact congrArg (λn:Int=>Iv n) Om|(simp;done)
   .rw[e]at hc hM hlr
    obtain⟨j,rfl⟩:∃k,j=k+1:=⟨j-1,by have:=hlr (by decide);omega⟩
    have hM:qar a b (out++[4]) m i j:=by simpa using hM
    apply qe []
    repeat' (first|apply Qb|(intro h;try exact cDd)|exact⟨Tryz.call184⟩|refine cpe hc ?_|(refine qf4 (ys:=[Iv 4]) rfl rfl rfl rfl rfl rfl rfl rfl (by simp only[Qe,Qh];omega) rfl ?_)|(refine Qa (out++[4],m,i,j) ⟨hM,by simp only;omega,?_⟩)|exact cSd|apply qc []|refine exr ?_|refine qf ?_)
    all_goals first|rfl|exact congrArg (λn:Int=>Iv n) Om|(simp;done)
theorem ze6(a b:List (List Fld))(st:List AObj)(ha:a.length<1000000)(hb:b.length<1000000)(hf:∀r∈a,r.length<1000000):ql E 117 [jy a,jy b] st λr st'=>r=qas (wayF a b)∧st'=st:=by
 refine q5 [.a (jy a),.a (jy b)] (yj _) Tryz.func117 rfl rfl (λ_=>rfl) rfl λS0=>?_
 have ht:=λst=>za3 a b st ha hb hf
 have hw:=λst=>zgt a b st ha hb hf
 apply qe []
 repeat' (first|apply Qb|(intro h;try exact cDd)|exact⟨Tryz.call160⟩|refine cpe ht ?_|exact⟨Tryz.call161⟩|refine cpe hw ?_|exact cSd|apply qc []|refine exr ?_|refine qf ?_)
theorem q1m(l:qo)(st:List AObj)(hl:l.ents.length<1000000)(hI:∀e∈l.ents,e.x.fields.length<1000000):ql E 46 [vc l] st λr st'=>r=jy (jv l)∧st'=st:=by
 refine q5 [.a (vc l)] (qgb _) Tryz.func46 rfl rfl (λ_=>rfl) rfl λS0=>?_
 have hz:=λst=>qq2 l st hl hI
 have hsl:=qbc l.ents
 unfold jv
 generalize stzF l.ents=s at *
 have hms:(s.map stzA).length=s.length:=Sx
 apply qe []
 repeat' (first|apply Qb|(intro h;try exact cDd)|exact⟨Tryz.call81⟩|refine cpe hz ?_|exact cSd|apply qc []|refine exr ?_|refine qf ?_)
 refine zl (X:=Nat) (λk=>⟨[(3,.tp 0),(7,.a (qkk s)),(8,.i s.length),(9,.i k)],[(0,some (.tip 1 53 (((s.take k).map Qk).map q6)))],1⟩) (λk=>k<=s.length) (λk=>s.length-k) 0 Om ?_ ?_
 .skip
  repeat' (first|apply Qb|(intro h;try exact cDd)|exact cSd|apply qc []|refine exr ?_|refine qf ?_)
  all_goals first|rfl|(simp;done)
 .rintro k hk
  by_cases hkn:k<s.length
  .have hx:s[k]?=some s[k]:=Qc hkn
   have hxm:(s.map stzA)[k]?=some (stzA s[k]):=by rw[Qd,hx];rfl
   have htk:=qdy hx
   have htl:(((s.take k).map Qk).map q6).length<=s.length:=So
   generalize s[k]=x at hx hxm htk
   apply qe []
   repeat' (first|apply Qb|(intro h;try exact cDd)|(refine Qa (k) ⟨Om,_,hxm,?_⟩)|(refine Qa (k+1) ⟨Om,Om,?_⟩)|exact cSd|apply qc []|refine exr ?_|refine qf ?_)
   all_goals first|rfl|(rw[htk];simp;done)|(simp;omega)
  .have hkn:k=s.length:=by omega
   subst hkn
   rw[Qn]
   apply qe []
   repeat' (first|apply Qb|(intro h;try exact cDd)|exact cSd|apply qc []|refine exr ?_|refine qf ?_)
@[reducible] def wkH (n : Nat) (S : List (Int × List Fld)) (R : List (List Fld)) (bh nx : Int) (out : List qq) : List (Nat × Option SR) := [(0, some (.cells 199 [.a (qkk S), .a (jy R), .i bh, .i nx, .tp n])), (n, some (.tip 3 55 (out.map j6)))]
theorem zec(s:Int×List Fld)(S:List (Int×List Fld))(r:List Fld)(R:List (List Fld))(bh nx:Int)(out:List qq)(hr:r.length<1000000)(hS:S.length<1000000)(hR:R.length<1000000):j9 E 118 [.bx 0 0,.i 1] 2 (hpF (wkH 1 (s::S) (r::R) bh nx out)) ⟨.tu [],jt (wkH 1 (s::S) (r::R) bh nx out),wkH 1 S R s.1 nx out++ku (wkH 1 (s::S) (r::R) bh nx out),2⟩:=by
 refine v8 [.bx 0 0,.i 1] (wkH 1 (s::S) (r::R) bh nx out) 2 (.tu []) (wkH 1 S R s.1 nx out) 2 Tryz.func118 rfl rfl rfl rfl λS0 F ρ=>?_
 have hc:=λst=>qa5 r st hr
 have h1:((s::S).map stzA)[0]?=some (stzA s):=rfl
 have h2:((r::R).map q6)[0]?=some (q6 r):=rfl
 have l1:((s::S).map stzA).length=S.length+1:=Sx
 have l2:((r::R).map q6).length=R.length+1:=Sx
 apply qe []
 repeat' (first|apply Qb|(intro h;try exact cDd)|(refine Qa (0) ⟨Om,_,h1,?_⟩)|(refine Qa (0) ⟨Om,_,h2,?_⟩)|exact⟨Tryz.call91⟩|refine cpe hc ?_|exact cSd|apply qc []|refine exr ?_|refine qf ?_)
 all_goals first|rfl|(simp;done)
theorem zed(s:Int×List Fld)(S:List (Int×List Fld))(r:List Fld)(R:List (List Fld))(bh nx:Int)(out:List qq)(hr:r.length<1000000)(hS:S.length<1000000)(hR:R.length<1000000)(ho:out.length<10000000):j9 E 118 [.bx 0 0,.i 2] 2 (hpF (wkH 1 (s::S) (r::R) bh nx out)) ⟨.tu [],jt (wkH 1 (s::S) (r::R) bh nx out),wkH 2 S R s.1 nx (out++[(⟨1,s.1,r⟩:qq)])++ku (wkH 1 (s::S) (r::R) bh nx out),3⟩:=by
 refine v8 [.bx 0 0,.i 2] (wkH 1 (s::S) (r::R) bh nx out) 2 (.tu []) (wkH 2 S R s.1 nx (out++[(⟨1,s.1,r⟩:qq)])) 3 Tryz.func118 rfl rfl rfl rfl λS0 F ρ=>?_
 have hc:=λst=>qa5 r st hr
 have h1:((s::S).map stzA)[0]?=some (stzA s):=rfl
 have h2:((r::R).map q6)[0]?=some (q6 r):=rfl
 have l1:((s::S).map stzA).length=S.length+1:=Sx
 have l2:((r::R).map q6).length=R.length+1:=Sx
 have l3:(out.map j6).length=out.length:=Sx
 apply qe []
 repeat' (first|apply Qb|(intro h;try exact cDd)|(refine Qa (0) ⟨Om,_,h1,?_⟩)|(refine Qa (0) ⟨Om,_,h2,?_⟩)|exact⟨Tryz.call91⟩|refine cpe hc ?_|exact cSd|apply qc []|refine exr ?_|refine qf ?_)
 all_goals first|rfl|(simp;done)|(simp[SV.evs,SV.rens,SV.ren,SV.ev];done)
theorem zee(s:Int×List Fld)(S:List (Int×List Fld))(R:List (List Fld))(bh nx:Int)(out:List qq)(hS:S.length<1000000)(ho:out.length<10000000):j9 E 118 [.bx 0 0,.i 3] 2 (hpF (wkH 1 (s::S) R bh nx out)) ⟨.tu [],jt (wkH 1 (s::S) R bh nx out),wkH 2 S R bh nx (out++[(⟨2,s.1,[]⟩:qq)])++ku (wkH 1 (s::S) R bh nx out),3⟩:=by
 refine v8 [.bx 0 0,.i 3] (wkH 1 (s::S) R bh nx out) 2 (.tu []) (wkH 2 S R bh nx (out++[(⟨2,s.1,[]⟩:qq)])) 3 Tryz.func118 rfl rfl rfl rfl λS0 F ρ=>?_
 have h1:((s::S).map stzA)[0]?=some (stzA s):=rfl
 have l1:((s::S).map stzA).length=S.length+1:=Sx
 have l3:(out.map j6).length=out.length:=Sx
 apply qe []
 repeat' (first|apply Qb|(intro h;try exact cDd)|(refine Qa (0) ⟨Om,_,h1,?_⟩)|exact cSd|apply qc []|refine exr ?_|refine qf ?_)
 all_goals first|rfl|(simp;done)|(simp[SV.evs,SV.rens,SV.ren,SV.ev];done)
theorem zef(S:List (Int×List Fld))(r:List Fld)(R:List (List Fld))(bh nx:Int)(out:List qq)(hr:r.length<1000000)(hR:R.length<1000000)(ho:out.length<10000000)(hn:0<=nx∧nx<100000000):j9 E 118 [.bx 0 0,.i 4] 2 (hpF (wkH 1 S (r::R) bh nx out)) ⟨.tu [],jt (wkH 1 S (r::R) bh nx out),wkH 2 S R nx (nx+1) (out++[(⟨3,bh,r⟩:qq)])++ku (wkH 1 S (r::R) bh nx out),3⟩:=by
 refine v8 [.bx 0 0,.i 4] (wkH 1 S (r::R) bh nx out) 2 (.tu []) (wkH 2 S R nx (nx+1) (out++[(⟨3,bh,r⟩:qq)])) 3 Tryz.func118 rfl rfl rfl rfl λS0 F ρ=>?_
 have hc:=λst=>qa5 r st hr
 have h2:((r::R).map q6)[0]?=some (q6 r):=rfl
 have l2:((r::R).map q6).length=R.length+1:=Sx
 have l3:(out.map j6).length=out.length:=Sx
 apply qe []
 repeat' (first|apply Qb|(intro h;try exact cDd)|(refine Qa (0) ⟨Om,_,h2,?_⟩)|exact⟨Tryz.call91⟩|refine cpe hc ?_|exact cSd|apply qc []|refine exr ?_|refine qf ?_)
 all_goals first|rfl|(simp;done)|(simp[SV.evs,SV.rens,SV.ren,SV.ev];done)
set_option maxHeartbeats 1000000 in
theorem q85(text:qd)(R:List (List Fld))(st:List AObj)(hR:∀r∈R,zo r=.no)(hrl:R.length<1000000):ql E 80 [vc (ofF (itsE text)),jy R] st λr st'=>r=qgf (km (ofF (itsE text)) R)∧st'=st:=by
 have hB:=qay text
 have hI:=qlx text
 have hb1:=hB.len
 have hb2:=hB.nx0
 have hb3:=hB.nx1
 have hz:=λst=>qq2 (ofF (itsE text)) st Om λe he=>by have:=(hI e he).2;omega
 have hn:=λst=>zdc (ofF (itsE text)) st
 have hr:=λst=>q1m (ofF (itsE text)) st Om λe he=>by have:=(hI e he).2;omega
 have hsl:=qbc (ofF (itsE text)).ents
 have hrf:∀r∈R,r.length<1000000:=λr h=>by have:=(qa4 (hR r h)).2.1;omega
 have hw:=λst=>ze6 (jv (ofF (itsE text))) R st (by unfold jv;rw[Qi];omega) hrl λr hr=>by
  unfold jv at hr
  obtain⟨s,hs,rfl⟩:=Qp.1 hr
  obtain⟨e,he,rfl⟩:=Qp.1 hs
  have:=(hI e (Ze.1 he).1).2
  simp only
  omega
 have hwl:=qhi (jv (ofF (itsE text))) R
 have hrll:(jv (ofF (itsE text))).length=(stzF (ofF (itsE text)).ents).length:=by simp[jv]
 have hst:=qwz (qm3 (stzF (ofF (itsE text)).ents) R) 0 (ofF (itsE text)).next
 refine q5 [.a (vc (ofF (itsE text))),.a (jy R)] (qw0 _) Tryz.func80 rfl rfl (λ_=>rfl) rfl λS0=>?_
 unfold km
 unfold jv at hw hwl hrll hr
 generalize ofF (itsE text)=l at *
 generalize hws:wayF ((stzF l.ents).map Qk) R=ws at *
 generalize stzF l.ents=S1 at *
 generalize zq ws S1 R 0 l.next=full at *
 have hml:(ws.map λn=>Iv n).length=ws.length:=Sx
 apply qe [18]
 repeat' (first|apply Qb|(intro h;try exact cDd)|exact⟨Tryz.call81⟩|refine cpe hz ?_|exact⟨Tryz.call116⟩|refine cpe hn ?_|exact⟨Tryz.call46⟩|refine cpe hr ?_|exact⟨Tryz.call117⟩|refine cpe hw ?_|exact cSd|apply qc [18]|refine exr ?_|refine qf ?_)
 refine zl (X:=Nat×List (Int×List Fld)×List (List Fld)×Int×Int×List qq) (λ(k,S,Q,bh,nx,out)=>⟨[(6,.bx 0 0),(22,.a (qas ws)),(23,.i ws.length),(24,.i k)],wkH 1 S Q bh nx out,2⟩)
  (λ(k,S,Q,bh,nx,out)=>(k<=ws.length∧EdAt full out (ws.drop k) S Q bh nx)∧out.length<=k∧0<=nx∧nx<=l.next+k∧S.length<=S1.length∧Q.length<=R.length∧∀r∈Q,r.length<1000000) (λ(k,_)=>ws.length-k) (0,S1,R,0,l.next,[]) ⟨⟨Om,by simpa using hst⟩,Sx,Om,Om,Om,Om,hrf⟩ ?_ ?_
 .skip
  repeat' (first|apply Qb|(intro h;try exact cDd)|exact cSd|apply qc []|refine exr ?_|refine qf ?_)
  all_goals first|rfl|(simp;done)
 .rintro⟨k,S,Q,bh,nx,out⟩ ⟨⟨hk,hE⟩,ho,hn0,hn1,hS,hQ,hQf⟩
  by_cases hkn:k<ws.length
  .have hx:ws[k]?=some ws[k]:=Qc hkn
   have hxm:(ws.map λn=>Iv n)[k]?=some (Iv ws[k]):=by rw[Qd,hx];rfl
   rw[Qs hkn]at hE
   generalize ws[k]=w at hx hxm hE
   rcases q1o hE with⟨rfl,s,S',Q',rfl,rfl,hE2⟩|⟨rfl,s,S',r,Q',rfl,rfl,hE2⟩|⟨rfl,s,S',rfl,hE2⟩|⟨rfl,r,Q',rfl,hE2⟩
   .simp only[Qe]at hS hQ
    have hc:=zec s S' s.2 Q' bh nx out (hQf _ Sx) Om Om
    apply qe []
    repeat' (first|apply Qb|(intro h;try exact cDd)|(refine Qa (k) ⟨Om,_,hxm,?_⟩)|exact⟨Tryz.call118⟩|(refine jf hc ?_)|(refine Qa (k+1,S',Q',s.1,nx,out) ⟨⟨⟨Om,hE2⟩,Om,Om,Om,Om,Om,λr hr=>hQf r (by simp[hr])⟩,by simp only;omega,?_⟩)|exact cSd|apply qc []|refine exr ?_|refine qf ?_)
    all_goals first|rfl|(simp;done)
   .simp only[Qe]at hS hQ
    have hc:=zed s S' r Q' bh nx out (hQf _ Sx) Om Om Om
    apply qe []
    repeat' (first|apply Qb|(intro h;try exact cDd)|(refine Qa (k) ⟨Om,_,hxm,?_⟩)|exact⟨Tryz.call118⟩|(refine jf hc ?_)|(refine Qa (k+1,S',Q',s.1,nx,out++[(⟨1,s.1,r⟩:qq)]) ⟨⟨⟨Om,hE2⟩,So,Om,Om,Om,Om,λr hr=>hQf r (by simp[hr])⟩,by simp only;omega,?_⟩)|exact cSd|apply qc []|refine exr ?_|refine qf ?_)
    all_goals first|rfl|(simp;done)
   .simp only[Qe]at hS
    have hc:=zee s S' Q bh nx out Om Om
    apply qe []
    repeat' (first|apply Qb|(intro h;try exact cDd)|(refine Qa (k) ⟨Om,_,hxm,?_⟩)|exact⟨Tryz.call118⟩|(refine jf hc ?_)|(refine Qa (k+1,S',Q,bh,nx,out++[(⟨2,s.1,[]⟩:qq)]) ⟨⟨⟨Om,hE2⟩,So,Om,Om,Om,Om,hQf⟩,by simp only;omega,?_⟩)|exact cSd|apply qc []|refine exr ?_|refine qf ?_)
    all_goals first|rfl|(simp;done)
   .simp only[Qe]at hQ
    have hc:=zef S r Q' bh nx out (hQf _ Sx) Om Om Om
    apply qe []
    repeat' (first|apply Qb|(intro h;try exact cDd)|(refine Qa (k) ⟨Om,_,hxm,?_⟩)|exact⟨Tryz.call118⟩|(refine jf hc ?_)|(refine Qa (k+1,S,Q',nx,nx+1,out++[(⟨3,bh,r⟩:qq)]) ⟨⟨⟨Om,hE2⟩,So,Om,Om,Om,Om,λr hr=>hQf r (by simp[hr])⟩,by simp only;omega,?_⟩)|exact cSd|apply qc []|refine exr ?_|refine qf ?_)
    all_goals first|rfl|(simp;done)
  .have hkn:k=ws.length:=by omega
   subst hkn
   rw[Xv]at hE
   have hsq:=q12 hE.ok
   have hfull:=q6b hE
   rw[hfull]
   have hmo:(out.map j6).length=out.length:=Sx
   unfold qgf
   by_cases h40:40<out.length
   .rw[if_pos h40]
    apply qe []
    repeat' (first|apply Qb|(intro h;try exact cDd)|exact cSd|apply qc []|refine exr ?_|refine qf ?_)
   .rw[if_neg h40]
    apply qe []
    repeat' (first|apply Qb|(intro h;try exact cDd)|exact cSd|apply qc []|refine exr ?_|refine qf ?_)
theorem q2d(a b:List Fld)(st:List AObj)(ha:a.length<1000000):ql E 139 [q6 a,q6 b] st λr st'=>r=Bv (decide (a=b))∧st'=st:=by
 refine q5 [.a (q6 a),.a (q6 b)] (qt _) Tryz.func139 rfl rfl (λ_=>rfl) rfl λS0=>?_
 have hma:(a.map fldA).length=a.length:=Sx
 have hmb:(b.map fldA).length=b.length:=Sx
 by_cases hl:a.length=b.length
 .apply qe []
  repeat' (first|apply Qb|(intro h;try exact cDd)|exact cSd|apply qc []|refine exr ?_|refine qf ?_)
  refine zl (X:=Nat) (λk=>⟨[(0,.a (q6 a)),(1,.a (q6 b)),(5,.i k)],[],0⟩) (λk=>k<=a.length∧a.take k=b.take k) (λk=>a.length-k) 0 ⟨Om,Sx⟩ ?_ ?_
  .skip
   repeat' (first|apply Qb|(intro h;try exact cDd)|exact cSd|apply qc []|refine exr ?_|refine qf ?_)
   all_goals first|rfl|(simp;done)
  .rintro k ⟨hk,ht⟩
   by_cases hkn:k<a.length
   .have hx:a[k]?=some a[k]:=Qc hkn
    have hy:b[k]?=some (b[k]'(by omega)):=Qc Om
    have hxm:(a.map fldA)[k]?=some (fldA a[k]):=by rw[Qd,hx];rfl
    have hym:(b.map fldA)[k]?=some (fldA (b[k]'(by omega))):=by rw[Qd,hy];rfl
    have h1:=qdy hx
    have h2:=qdy hy
    generalize a[k]=x at hx hxm h1
    generalize b[k]'(by omega)=y at hy hym h2
    by_cases hxy:x=y
    .subst hxy
     have hq:x.1=x.1∧x.2=x.2∧True:=⟨rfl,rfl,trivial⟩
     apply qe []
     repeat' (first|apply Qb|(intro h;try exact cDd)|(refine Qa (k) ⟨Om,_,hxm,?_⟩)|(refine Qa (k) ⟨Om,_,hym,?_⟩)|(refine qvu qqg rfl rfl rfl rfl rfl ?_)|exact absurd hq (by assumption)|(refine Qa (k+1) ⟨⟨Om,by rw[h1,h2,ht]⟩,Om,?_⟩)|exact cSd|apply qc []|refine exr ?_|refine qf ?_)
     all_goals first|rfl|(simp;done)
    .have hne:=q2h hx hy hxy
     rw[decide_eq_false hne]
     have hq:¬(x.1=y.1∧x.2=y.2∧True):=λh=>hxy (Ym h.1 h.2.1)
     apply qe []
     repeat' (first|apply Qb|(intro h;try exact cDd)|(refine Qa (k) ⟨Om,_,hxm,?_⟩)|(refine Qa (k) ⟨Om,_,hym,?_⟩)|(refine qvu qqg rfl rfl rfl rfl rfl ?_)|exact absurd (by assumption) hq|exact absurd hq (by assumption)|exact cSd|apply qc []|refine exr ?_|refine qf ?_)
     all_goals first|rfl|(simp;done)
   .have hkn:k=a.length:=by omega
    subst hkn
    rw[Qn,hl,Qn]at ht
    rw[decide_eq_true ht]
    apply qe []
    repeat' (first|apply Qb|(intro h;try exact cDd)|exact cSd|apply qc []|refine exr ?_|refine qf ?_)
 .rw[decide_eq_false λe=>hl (congrArg Xf e)]
  apply qe []
  repeat' (first|apply Qb|(intro h;try exact cDd)|exact cSd|apply qc []|refine exr ?_|refine qf ?_)
theorem qzz(a b:List (List Fld))(n:Nat):Pure (.sl 1 (wy a b n) none):=y7 λx hx=>by
 obtain⟨f,_,rfl⟩:=Qp.1 hx
 intro y hy
 simp only[AV.cells,Qq]at hy
 subst hy
 exact yj _
theorem qtp{α β:Type}(g:α->β){l r:List α}{i:Nat}{x:α}(h:l.drop i=x::r):i<l.length∧r=l.drop (i+1)∧(l.map g)[i]?=some (g x):=by
 have hi:i<l.length:=by
  rcases Nat.lt_or_ge i l.length with h'|h'
  .exact h'
  .rw[Xe h']at h
   simp at h
 rw[Qs hi]at h
 simp only[Xd]at h
 refine⟨hi,h.2.symm,?_⟩
 rw[Qd,Qc hi,h.1]
 rfl
theorem q3e(a b:List (List Fld))(i j:Nat):(zi a b i (j+1)<=zi a b i j+1∧zi a b i j<=zi a b i (j+1)+1)∧zi a b (i+1) j<=zi a b i j+1∧zi a b i j<=zi a b (i+1) j+1:=by
 obtain⟨⟨h1,h2⟩,h3,h4⟩:=qht a b (i+j) i j (Qm _)
 unfold zi
 omega
set_option maxHeartbeats 2000000 in
theorem q53(a b:List (List Fld))(st:List AObj)(ha:a.length<1000000)(hb:b.length<1000000)(hf:∀r∈a,r.length<1000000):ql E 138 [jy a,jy b] st λr st'=>r=.sl 1 (wy a b (a.length+1)) none∧st'=st:=by
 refine qhd [.a (jy a),.a (jy b)] (qzz a b _) Tryz.func138 rfl rfl (λ_=>rfl) rfl λS0=>?_
 have hma:(a.map q6).length=a.length:=Sx
 have hmb:(b.map q6).length=b.length:=Sx
 apply qe []
 repeat' (first|apply Qb|(intro h;try exact cDd)|exact cSd|apply qc []|refine exr ?_|refine qf ?_)
 refine zl (X:=Nat) (λi=>⟨[(0,.a (jy a)),(1,.a (jy b)),(5,.tp 0),(6,.i i)],[(0,some (.rows 111 (wy a b i) []))],1⟩) (λi=>i<=a.length+1) (λi=>a.length+1-i) 0 Om ?_ ?_
 .skip
  repeat' (first|apply Qb|(intro h;try exact cDd)|exact cSd|apply qc []|refine exr ?_|refine qf ?_)
  all_goals first|rfl|(simp[SV.evs,SV.rens,SV.ren,SV.ev];done)
 .rintro i hi
  have hcl:=qb1 a b i
  have hcn:=qlc a b i (.tp 1)
  by_cases hin:i<a.length+1
  .apply qe [17]
   repeat' (first|apply Qb|(intro h;try exact cDd)|(refine qyw rfl rfl rfl rfl rfl rfl rfl rfl rfl Om rfl ?_)|exact cSd|apply qc [17]|refine exr ?_|refine qf ?_)
   refine q7x (X:=Nat) (λj=>⟨[(0,.a (jy a)),(1,.a (jy b)),(5,.tp 0),(6,.i i),(7,.i j)],[(0,some (.rows 111 (wy a b i) [.tp 1])),(1,some (.tip 1 3 ((rowF a b i j).map λn=>Iv n)))],2⟩) (λj=>j<=b.length+1) (λj=>b.length+1-j) 0 Om (entE [(0,2)] ?_) ?_
   .skip
    repeat' (first|apply Qb|(intro h;try exact cDd)|exact cSd|apply qc []|refine exr ?_|refine qf ?_)
    all_goals first|rfl|(simp[SV.evs,SV.rens,SV.ren,SV.ev];done)
   .rintro j hj
    have hrl:=qdi a b i j
    by_cases hjn:j<b.length+1
    .have hsn:(rowF a b i (j+1)).map (λn=>Iv n)=(rowF a b i j).map (λn=>Iv n)++[Iv (zi a b i j)]:=by rw[qum,Ya];rfl
     have p0:=xb a b i j
     cases i with
     |zero=>
      have e0:=qse a b j
      cases j with
      |zero=>
       generalize zi a b 0 0=c0 at *
       apply qe []
       repeat' (first|apply Qb|(intro h;try exact cDd)|(refine xk (i:=0) rfl rfl rfl (ix64 Om) rfl rfl (by simp only[Qe,Qh];omega) ?_)|(refine xl (i:=0) rfl rfl rfl rfl hcn rfl ?_)|(refine qee (i:=0) rfl rfl rfl rfl Om Sx rfl ?_)|(refine Qa (0+1) ⟨Om,Om,?_⟩)|(refine entE [(0,0),(1,2)] ?_)|exact cSd|apply qc []|refine exr ?_|refine qf ?_)
       all_goals first|rfl|(rw[hsn];exact congrArg (λz:Int=>_++[Iv z]) Om)|(simp[SV.evs,SV.rens,SV.ren,SV.ev];done)
      |succ j=>
       have g3:=xx a b 0 (n:=j+1) (j:=j) Om
       have e1:=qse a b j
       generalize zi a b 0 (j+1)=c0 at *
       generalize zi a b 0 j=c1 at *
       apply qe []
       repeat' (first|apply Qb|(intro h;try exact cDd)|(refine Qa (j) ⟨Om,_,g3,?_⟩)|(refine xk (i:=0) rfl rfl rfl (ix64 Om) rfl rfl (by simp only[Qe,Qh];omega) ?_)|(refine xl (i:=0) rfl rfl rfl rfl hcn rfl ?_)|(refine qee (i:=0) rfl rfl rfl rfl Om Sx rfl ?_)|(refine Qa ((j+1)+1) ⟨Om,Om,?_⟩)|(refine entE [(0,0),(1,2)] ?_)|exact cSd|apply qc []|refine exr ?_|refine qf ?_)
       all_goals first|rfl|(rw[hsn];exact congrArg (λz:Int=>_++[Iv z]) Om)|(simp[SV.evs,SV.rens,SV.ren,SV.ev];done)
     |succ i=>
      have hr1:=qtg a b (show i<i+1 by omega) [.tp 1]
      cases j with
      |zero=>
       have g1:=xx a b i (n:=b.length+1) (j:=0) Om
       have e0:=qek a b (i+1)
       have e1:=qek a b i
       generalize zi a b (i+1) 0=c0 at *
       generalize zi a b i 0=c1 at *
       apply qe []
       repeat' (first|apply Qb|(intro h;try exact cDd)|(refine Qa (0) ⟨Om,_,g1,?_⟩)|(refine xk (i:=(i+1)) rfl rfl rfl (ix64 Om) rfl rfl (by simp only[Qe,Qh];omega) ?_)|(refine xl (i:=(i+1)) rfl rfl rfl rfl hcn rfl ?_)|(refine xk (i:=i) rfl rfl rfl (ix64 Om) rfl rfl (by simp only[Qe,Qh];omega) ?_)|(refine xl (i:=i) rfl rfl rfl rfl hr1 rfl ?_)|(refine qee (i:=0) rfl rfl rfl rfl Om Sx rfl ?_)|(refine Qa (0+1) ⟨Om,Om,?_⟩)|(refine entE [(0,0),(1,2)] ?_)|exact cSd|apply qc []|refine exr ?_|refine qf ?_)
       all_goals first|rfl|(rw[hsn];exact congrArg (λz:Int=>_++[Iv z]) Om)|(simp[SV.evs,SV.rens,SV.ren,SV.ev];done)
      |succ j=>
       have g1:=xx a b i (n:=b.length+1) (j:=j+1) Om
       have g2:=xx a b i (n:=b.length+1) (j:=j) Om
       have g3:=xx a b (i+1) (n:=j+1) (j:=j) Om
       have p1:=xb a b i (j+1)
       have p2:=xb a b i j
       have p3:=xb a b (i+1) j
       have n1:=q3e a b i j
       have hx:=qcb (R:=a) (k:=i) Om
       have hy:=qcb (R:=b) (k:=j) Om
       have hs:=λst=>q2d (a[i]'(by omega)) (b[j]'(by omega)) st (hf _ (Zl _))
       have hsame:=@qp6 _ _ a b i j
       have hoth:=@qni _ _ a b i j
       have ei:a[i]?=some (a[i]'(by omega)):=Qc Om
       have ej:b[j]?=some (b[j]'(by omega)):=Qc Om
       rw[ei,ej,Qg]at hsame hoth
       generalize a[i]'(by omega)=x at *
       generalize b[j]'(by omega)=y at *
       generalize zi a b (i+1) (j+1)=c0 at *
       generalize zi a b i (j+1)=c1 at *
       generalize zi a b (i+1) j=c3 at *
       generalize zi a b i j=c2 at *
       by_cases hxy:x=y
       .rw[decide_eq_true hxy]at hs
        have hc:=hsame hxy
        apply qe []
        repeat' (first|apply Qb|(intro h;try exact cDd)|(refine Qa ((j+1)) ⟨Om,_,g1,?_⟩)|(refine Qa (j) ⟨Om,_,g2,?_⟩)|(refine Qa (j) ⟨Om,_,g3,?_⟩)|(refine Qa (i) ⟨Om,_,hx,?_⟩)|(refine Qa (j) ⟨Om,_,hy,?_⟩)|exact⟨Tryz.call139⟩|refine cpe hs ?_|(refine xk (i:=(i+1)) rfl rfl rfl (ix64 Om) rfl rfl (by simp only[Qe,Qh];omega) ?_)|(refine xl (i:=(i+1)) rfl rfl rfl rfl hcn rfl ?_)|(refine xk (i:=i) rfl rfl rfl (ix64 Om) rfl rfl (by simp only[Qe,Qh];omega) ?_)|(refine xl (i:=i) rfl rfl rfl rfl hr1 rfl ?_)|(refine qee (i:=0) rfl rfl rfl rfl Om Sx rfl ?_)|(refine Qa ((j+1)+1) ⟨Om,Om,?_⟩)|(refine entE [(0,0),(1,2)] ?_)|exact cSd|apply qc []|refine exr ?_|refine qf ?_)
        all_goals first|rfl|(rw[hsn];exact congrArg (λz:Int=>_++[Iv z]) Om)|(simp[SV.evs,SV.rens,SV.ren,SV.ev];done)
       .rw[decide_eq_false hxy]at hs
        have hc:=hoth hxy
        apply qe []
        repeat' (first|apply Qb|(intro h;try exact cDd)|(refine Qa ((j+1)) ⟨Om,_,g1,?_⟩)|(refine Qa (j) ⟨Om,_,g2,?_⟩)|(refine Qa (j) ⟨Om,_,g3,?_⟩)|(refine Qa (i) ⟨Om,_,hx,?_⟩)|(refine Qa (j) ⟨Om,_,hy,?_⟩)|exact⟨Tryz.call139⟩|refine cpe hs ?_|(refine xk (i:=(i+1)) rfl rfl rfl (ix64 Om) rfl rfl (by simp only[Qe,Qh];omega) ?_)|(refine xl (i:=(i+1)) rfl rfl rfl rfl hcn rfl ?_)|(refine xk (i:=i) rfl rfl rfl (ix64 Om) rfl rfl (by simp only[Qe,Qh];omega) ?_)|(refine xl (i:=i) rfl rfl rfl rfl hr1 rfl ?_)|(refine qee (i:=0) rfl rfl rfl rfl Om Sx rfl ?_)|(refine Qa ((j+1)+1) ⟨Om,Om,?_⟩)|(refine entE [(0,0),(1,2)] ?_)|exact cSd|apply qc []|refine exr ?_|refine qf ?_)
        all_goals first|rfl|(rw[hsn];exact congrArg (λz:Int=>_++[Iv z]) Om)|(simp[SV.evs,SV.rens,SV.ren,SV.ev];done)
    .have hjn:j=b.length+1:=by omega
     subst hjn
     have hsn:wy a b (i+1)=wy a b i++[.sl 1 ((rowF a b i (b.length+1)).map λn=>Iv n) none]:=qp7 a b i
     refine zd2 (b:=0) (r:=1) rfl rfl ?_
     apply qe []
     repeat' (first|apply Qb|(intro h;try exact cDd)|(refine Qa (i+1) ⟨Om,Om,?_⟩)|exact cSd|apply qc []|refine exr ?_|refine qf ?_)
     all_goals first|rfl|(rw[hsn];done)|(simp[SV.evs,SV.rens,SV.ren,SV.ev];done)
  .have hin:i=a.length+1:=by omega
   subst hin
   refine qn5 (b:=0) rfl ?_
   apply qe []
   repeat' (first|apply Qb|(intro h;try exact cDd)|exact cSd|apply qc []|refine exr ?_|refine qf ?_)
set_option maxHeartbeats 8000000 in
theorem zem(a b:List (List Fld))(st:List AObj)(ha:a.length<1000000)(hb:b.length<1000000)(hf:∀r∈a,r.length<1000000):ql E 99 [jy a,jy b] st λr st'=>r=qas (wayF a b)∧st'=st:=by
 refine q5 [.a (jy a),.a (jy b)] (yj _) Tryz.func99 rfl rfl (λ_=>rfl) rfl λS0=>?_
 have hma:(a.map q6).length=a.length:=Sx
 have hmb:(b.map q6).length=b.length:=Sx
 have hwl:=qhi a b
 have hcs:=λst=>q53 a b st ha hb hf
 have hcl:=qb1 a b (a.length+1)
 apply qe []
 repeat' (first|apply Qb|(intro h;try exact cDd)|exact⟨Tryz.call138⟩|refine cpe hcs ?_|exact cSd|apply qc []|refine exr ?_|refine qf ?_)
 refine zl (X:=List Int×Nat×Nat×Nat) (λ(out,n,i,j)=>⟨[(0,.a (jy a)),(1,.a (jy b)),(5,.a (.sl 1 (wy a b (a.length+1)) none)),(6,.a (qas out.reverse)),(7,.i i),(8,.i j)],[],0⟩) (λ(out,n,i,j)=>qar a b out n i j) (λ(out,n,i,j)=>i+j) ([],a.length+b.length,a.length,b.length) (quu a b) ?_ ?_
 .skip
  repeat' (first|apply Qb|(intro h;try exact cDd)|exact cSd|apply qc []|refine exr ?_|refine qf ?_)
  all_goals first|rfl|(simp;done)
 .rintro⟨out,n,i,j⟩ hW
  have h1:=hW.hi
  have h2:=hW.hj
  have hol:out.length<=a.length+b.length:=by
   have:=congrArg Xf hW.eq
   rw[Zr,Qf]at this
   omega
  have hml:(out.reverse.map λn=>Iv n).length=out.length:=Sx
  have hrv:∀w:Int,(out++[w]).reverse.map (λn=>Iv n)=[Iv w]++out.reverse.map λn=>Iv n:=λw=>by simp
  by_cases h0:i=0∧j=0
  .obtain⟨rfl,rfl⟩:=h0
   have he:=q2m hW
   rw[<-he]
   apply qe [109]
   repeat' (first|apply Qb|(intro h;try exact cDd)|exact cSd|apply qc [109]|refine exr ?_|refine qf ?_)
   all_goals first|rfl|(simp;done)
  .obtain⟨m,hm,hM⟩:=qzh hW h0
   have hle:=qxq a b i j
   have hr0:=qe9 a b (show i<a.length+1 by omega)
   have g0:=xx a b i (n:=b.length+1) (j:=j) Om
   have p0:=xb a b i j
   cases i with
   |zero=>
    obtain⟨j,rfl⟩:∃k,j=k+1:=⟨j-1,Om⟩
    have hn:qbt 0 (j+1) (decide (a[0-1]?=b[j+1-1]?)) (zi a b (0-1) (j+1-1)) (zi a b (0-1) (j+1)) (zi a b 0 (j+1))=4:=by simp[qbt]
    rw[hn]at hle
    rw[<-hle]at hM
    have hM:qar a b (out++[4]) m 0 j:=by simpa using hM
    have hv:=hrv 4
    apply qe [109]
    repeat' (first|apply Qb|(intro h;try exact cDd)|(refine Qa (out++[4],m,0,j) ⟨hM,by simp only;omega,?_⟩)|exact cSd|apply qc [109]|refine exr ?_|refine qf ?_)
    all_goals first|rfl|exact Xp (show 1+(out.reverse.map λn=>Iv n).length<=1000000000 by omega)|exact congrArg (λl=>AV.sl 1 l none) hv.symm|exact congrArg (λn:Int=>Iv n) Om|(simp;done)|omega
   |succ i=>
    have hr1:=qe9 a b (show i<a.length+1 by omega)
    have g1:=xx a b i (n:=b.length+1) (j:=j) Om
    have p1:=xb a b i j
    cases j with
    |zero=>
     have e1:zi a b (i+1) 0=zi a b i 0+1:=by rw[qek,qek];omega
     have hn:qbt (i+1) 0 (decide (a[i+1-1]?=b[0-1]?)) (zi a b (i+1-1) (0-1)) (zi a b (i+1-1) 0) (zi a b (i+1) 0)=3:=by
      unfold qbt
      rw[if_neg Om,if_neg Om,if_pos ⟨Om,by simp only[Zh];omega⟩]
     rw[hn]at hle
     rw[<-hle]at hM
     have hM:qar a b (out++[3]) m i 0:=by simpa using hM
     have hv:=hrv 3
     generalize zi a b (i+1) 0=c0 at *
     generalize zi a b i 0=c1 at *
     apply qe [109]
     repeat' (first|apply Qb|(intro h;try exact cDd)|(refine Qa ((i+1)) ⟨Om,_,hr0,?_⟩)|(refine Qa (i) ⟨Om,_,hr1,?_⟩)|(refine Qa (0) ⟨Om,_,g0,?_⟩)|(refine Qa (0) ⟨Om,_,g1,?_⟩)|(refine Qa (out++[3],m,i,0) ⟨hM,by simp only;omega,?_⟩)|exact cSd|apply qc [109]|refine exr ?_|refine qf ?_)
     all_goals first|rfl|exact Xp (show 1+(out.reverse.map λn=>Iv n).length<=1000000000 by omega)|exact congrArg (λl=>AV.sl 1 l none) hv.symm|exact congrArg (λn:Int=>Iv n) Om|(simp;done)|omega
    |succ j=>
     simp only[Zh]at hle
     have hx:=qcb (R:=a) (k:=i) Om
     have hy:=qcb (R:=b) (k:=j) Om
     have hs:=λst=>q2d (a[i]'(by omega)) (b[j]'(by omega)) st (hf _ (Zl _))
     have g2:=xx a b i (n:=b.length+1) (j:=j) Om
     have p2:=xb a b i j
     have ei:a[i]?=some (a[i]'(by omega)):=Qc Om
     have ej:b[j]?=some (b[j]'(by omega)):=Qc Om
     rw[ei,ej]at hle
     simp only[Qg]at hle
     generalize a[i]'(by omega)=x at *
     generalize b[j]'(by omega)=y at *
     generalize zi a b (i+1) (j+1)=c0 at *
     generalize zi a b i (j+1)=c1 at *
     generalize zi a b i j=c2 at *
     have hl:∀q:Bool,qbt (i+1) (j+1) q c2 c1 c0=if q=true∧c2=c0 then 1 else if c2=c0-1 then 2 else if c1=c0-1 then 3 else 4:=λq=>by
      unfold qbt
      simp
     rw[hl]at hle
     generalize wj a b (i+1) (j+1)=w at *
     have hv:=hrv w
     have hw:(w=1∧x=y∧c2=c0)∨(w=2∧¬(x=y∧c2=c0)∧c2=c0-1)∨(w=3∧¬(x=y∧c2=c0)∧c2≠c0-1∧c1=c0-1)∨(w=4∧¬(x=y∧c2=c0)∧c2≠c0-1∧c1≠c0-1):=by
      simp only[decide_eq_true_eq]at hle
      split at hle
      .exact .inl ⟨hle.symm,by assumption⟩
      .split at hle
       .exact .inr (.inl ⟨hle.symm,by assumption,by assumption⟩)
       .split at hle
        .exact .inr (.inr (.inl ⟨hle.symm,by assumption,by assumption,by assumption⟩))
        .exact .inr (.inr (.inr ⟨hle.symm,by assumption,by assumption,by assumption⟩))
     clear hle hl
     rcases hw with⟨rfl,hxy,h3⟩|⟨rfl,hxy,h3⟩|⟨rfl,hxy,h3,h4⟩|⟨rfl,hxy,h3,h4⟩
     .have hM:qar a b (out++[1]) m i j:=by simpa using hM
      rw[decide_eq_true hxy]at hs
      apply qe [109]
      repeat' (first|apply Qb|(intro h;try exact cDd)|(refine Qa ((i+1)) ⟨Om,_,hr0,?_⟩)|(refine Qa (i) ⟨Om,_,hr1,?_⟩)|(refine Qa ((j+1)) ⟨Om,_,g0,?_⟩)|(refine Qa ((j+1)) ⟨Om,_,g1,?_⟩)|(refine Qa (j) ⟨Om,_,g2,?_⟩)|(refine Qa (i) ⟨Om,_,hx,?_⟩)|(refine Qa (j) ⟨Om,_,hy,?_⟩)|exact⟨Tryz.call139⟩|refine cpe hs ?_|(refine Qa (out++[1],m,i,j) ⟨hM,by simp only;omega,?_⟩)|exact cSd|apply qc [109]|refine exr ?_|refine qf ?_)
      all_goals first|rfl|exact Xp (show 1+(out.reverse.map λn=>Iv n).length<=1000000000 by omega)|exact congrArg (λl=>AV.sl 1 l none) hv.symm|exact congrArg (λn:Int=>Iv n) Om|(simp;done)|(exfalso;simp_all;done)
     .have hM:qar a b (out++[2]) m i j:=by simpa using hM
      cases hq:decide (x=y)
      all_goals
       rw[hq]at hs
       apply qe [109]
       repeat' (first|apply Qb|(intro h;try exact cDd)|(refine Qa ((i+1)) ⟨Om,_,hr0,?_⟩)|(refine Qa (i) ⟨Om,_,hr1,?_⟩)|(refine Qa ((j+1)) ⟨Om,_,g0,?_⟩)|(refine Qa ((j+1)) ⟨Om,_,g1,?_⟩)|(refine Qa (j) ⟨Om,_,g2,?_⟩)|(refine Qa (i) ⟨Om,_,hx,?_⟩)|(refine Qa (j) ⟨Om,_,hy,?_⟩)|exact⟨Tryz.call139⟩|refine cpe hs ?_|(refine Qa (out++[2],m,i,j) ⟨hM,by simp only;omega,?_⟩)|exact cSd|apply qc [109]|refine exr ?_|refine qf ?_)
       all_goals first|rfl|exact Xp (show 1+(out.reverse.map λn=>Iv n).length<=1000000000 by omega)|exact congrArg (λl=>AV.sl 1 l none) hv.symm|exact congrArg (λn:Int=>Iv n) Om|(simp;done)|(exfalso;simp_all;done)
     .have hM:qar a b (out++[3]) m i (j+1):=by simpa using hM
      cases hq:decide (x=y)
      all_goals
       rw[hq]at hs
       apply qe [109]
       repeat' (first|apply Qb|(intro h;try exact cDd)|(refine Qa ((i+1)) ⟨Om,_,hr0,?_⟩)|(refine Qa (i) ⟨Om,_,hr1,?_⟩)|(refine Qa ((j+1)) ⟨Om,_,g0,?_⟩)|(refine Qa ((j+1)) ⟨Om,_,g1,?_⟩)|(refine Qa (j) ⟨Om,_,g2,?_⟩)|(refine Qa (i) ⟨Om,_,hx,?_⟩)|(refine Qa (j) ⟨Om,_,hy,?_⟩)|exact⟨Tryz.call139⟩|refine cpe hs ?_|(refine Qa (out++[3],m,i,j+1) ⟨hM,by simp only;omega,?_⟩)|exact cSd|apply qc [109]|refine exr ?_|refine qf ?_)
       all_goals first|rfl|exact Xp (show 1+(out.reverse.map λn=>Iv n).length<=1000000000 by omega)|exact congrArg (λl=>AV.sl 1 l none) hv.symm|exact congrArg (λn:Int=>Iv n) Om|(simp;done)|(exfalso;simp_all;done)
     .have hM:qar a b (out++[4]) m (i+1) j:=by simpa using hM
      cases hq:decide (x=y)
      all_goals
       rw[hq]at hs
       apply qe [109]
       repeat' (first|apply Qb|(intro h;try exact cDd)|(refine Qa ((i+1)) ⟨Om,_,hr0,?_⟩)|(refine Qa (i) ⟨Om,_,hr1,?_⟩)|(refine Qa ((j+1)) ⟨Om,_,g0,?_⟩)|(refine Qa ((j+1)) ⟨Om,_,g1,?_⟩)|(refine Qa (j) ⟨Om,_,g2,?_⟩)|(refine Qa (i) ⟨Om,_,hx,?_⟩)|(refine Qa (j) ⟨Om,_,hy,?_⟩)|exact⟨Tryz.call139⟩|refine cpe hs ?_|(refine Qa (out++[4],m,i+1,j) ⟨hM,by simp only;omega,?_⟩)|exact cSd|apply qc [109]|refine exr ?_|refine qf ?_)
       all_goals first|rfl|exact Xp (show 1+(out.reverse.map λn=>Iv n).length<=1000000000 by omega)|exact congrArg (λl=>AV.sl 1 l none) hv.symm|exact congrArg (λn:Int=>Iv n) Om|(simp;done)|(exfalso;simp_all;done)
theorem qn0(l:qo)(st:List AObj)(hl:l.ents.length<1000000):ql E 60 [jr l] st λr st'=>r=jy (jv l)∧st'=st:=by
 refine q5 [.a (jr l)] (qgb _) Tryz.func60 rfl rfl (λ_=>rfl) rfl λS0=>?_
 have hz:=λst=>qjb l st hl
 have hsl:=qbc l.ents
 unfold jv
 generalize stzF l.ents=s at *
 have hms:(s.map stzA).length=s.length:=Sx
 apply qe []
 repeat' (first|apply Qb|(intro h;try exact cDd)|exact⟨Tryz.call98⟩|refine cpe hz ?_|exact cSd|apply qc []|refine exr ?_|refine qf ?_)
 refine zl (X:=Nat) (λk=>⟨[(3,.tp 0),(4,.a (qkk s)),(5,.i k)],[(0,some (.tip 1 53 (((s.take k).map Qk).map q6)))],1⟩) (λk=>k<=s.length) (λk=>s.length-k) 0 Om ?_ ?_
 .skip
  repeat' (first|apply Qb|(intro h;try exact cDd)|exact cSd|apply qc []|refine exr ?_|refine qf ?_)
  all_goals first|rfl|(simp;done)
 .rintro k hk
  by_cases hkn:k<s.length
  .have hx:s[k]?=some s[k]:=Qc hkn
   have hxm:(s.map stzA)[k]?=some (stzA s[k]):=by rw[Qd,hx];rfl
   have htk:=qdy hx
   have htl:(((s.take k).map Qk).map q6).length<=s.length:=So
   generalize s[k]=x at hx hxm htk
   apply qe []
   repeat' (first|apply Qb|(intro h;try exact cDd)|(refine Qa (k) ⟨Om,_,hxm,?_⟩)|(refine Qa (k+1) ⟨Om,Om,?_⟩)|exact cSd|apply qc []|refine exr ?_|refine qf ?_)
   all_goals first|rfl|(rw[htk];simp;done)|(simp;omega)
  .have hkn:k=s.length:=by omega
   subst hkn
   rw[Qn]
   apply qe []
   repeat' (first|apply Qb|(intro h;try exact cDd)|exact cSd|apply qc []|refine exr ?_|refine qf ?_)
set_option maxHeartbeats 1000000 in
theorem qyn(text:qd)(R:List (List Fld))(st:List AObj)(hrl:R.length<1000000):ql E 59 [jr (ofF (itsE text)),jy R] st λr st'=>r=ji (km (ofF (itsE text)) R)∧st'=st:=by
 have hB:=qay text
 have hI:=qlx text
 have hb1:=hB.len
 have hb2:=hB.nx0
 have hb3:=hB.nx1
 have hz:=λst=>qjb (ofF (itsE text)) st Om
 have hr:=λst=>qn0 (ofF (itsE text)) st Om
 have hsl:=qbc (ofF (itsE text)).ents
 have hw:=λst=>zem (jv (ofF (itsE text))) R st (by unfold jv;rw[Qi];omega) hrl λr hr=>by
  unfold jv at hr
  obtain⟨s,hs,rfl⟩:=Qp.1 hr
  obtain⟨e,he,rfl⟩:=Qp.1 hs
  have:=(hI e (Ze.1 he).1).2
  simp only
  omega
 have hwl:=qhi (jv (ofF (itsE text))) R
 have hrll:(jv (ofF (itsE text))).length=(stzF (ofF (itsE text)).ents).length:=by simp[jv]
 have hst:=qwz (qm3 (stzF (ofF (itsE text)).ents) R) 0 (ofF (itsE text)).next
 refine q5 [.a (jr (ofF (itsE text))),.a (jy R)] (qcz _) Tryz.func59 rfl rfl (λ_=>rfl) rfl λS0=>?_
 unfold km
 unfold jv at hw hwl hrll hr
 generalize ofF (itsE text)=l at *
 generalize hws:wayF ((stzF l.ents).map Qk) R=ws at *
 generalize stzF l.ents=S1 at *
 generalize zq ws S1 R 0 l.next=full at *
 have hml:(ws.map λn=>Iv n).length=ws.length:=Sx
 have hms:(S1.map stzA).length=S1.length:=Sx
 have hmr:(R.map q6).length=R.length:=Sx
 apply qe []
 repeat' (first|apply Qb|(intro h;try exact cDd)|exact⟨Tryz.call98⟩|refine cpe hz ?_|exact⟨Tryz.call60⟩|refine cpe hr ?_|exact⟨Tryz.call99⟩|refine cpe hw ?_|exact cSd|apply qc []|refine exr ?_|refine qf ?_)
 refine zl (X:=Nat×Nat×Nat×Int×Int×List qq) (λ(k,i,j,bh,nx,out)=>⟨[(1,.a (jy R)),(5,.a (qkk S1)),(6,.a (qas ws)),(7,.tp 0),(8,.i i),(9,.i j),(10,.i bh),(11,.i nx),(12,.i k)],[(0,some (.tip 3 55 (out.map j6)))],1⟩)
  (λ(k,i,j,bh,nx,out)=>(k<=ws.length∧EdAt full out (ws.drop k) (S1.drop i) (R.drop j) bh nx)∧out.length<=k∧0<=nx∧nx<=l.next+k∧i<=S1.length∧j<=R.length) (λ(k,_)=>ws.length-k) (0,0,0,0,l.next,[]) ⟨⟨Om,by simpa using hst⟩,Sx,Om,Om,Om,Om⟩ ?_ ?_
 .skip
  repeat' (first|apply Qb|(intro h;try exact cDd)|exact cSd|apply qc []|refine exr ?_|refine qf ?_)
  all_goals first|rfl|(simp;done)
 .rintro⟨k,i,j,bh,nx,out⟩ ⟨⟨hk,hE⟩,ho,hn0,hn1,hS,hQ⟩
  have hmo:(out.map j6).length=out.length:=Sx
  by_cases hkn:k<ws.length
  .have hx:ws[k]?=some ws[k]:=Qc hkn
   have hxm:(ws.map λn=>Iv n)[k]?=some (Iv ws[k]):=by rw[Qd,hx];rfl
   rw[Qs hkn]at hE
   generalize ws[k]=w at hx hxm hE
   have hSd:∀{s:Int×List Fld}{S':List (Int×List Fld)},S1.drop i=s::S'->i<S1.length∧S'=S1.drop (i+1)∧(S1.map stzA)[i]?=some (stzA s):=λ{s S'}h=>qtp stzA h
   have hRd:∀{s:List Fld}{S':List (List Fld)},R.drop j=s::S'->j<R.length∧S'=R.drop (j+1)∧(R.map q6)[j]?=some (q6 s):=λ{s S'}h=>qtp q6 h
   rcases q1o hE with⟨rfl,s,S',Q',h1,h2,hE⟩|⟨rfl,s,S',r,Q',h1,h2,hE⟩|⟨rfl,s,S',h1,hE⟩|⟨rfl,r,Q',h2,hE⟩
   .obtain⟨a1,rfl,a3⟩:=hSd h1
    obtain⟨b1,rfl,b3⟩:=hRd h2
    apply qe []
    repeat' (first|apply Qb|(intro h;try exact cDd)|(refine Qa (k) ⟨Om,_,hxm,?_⟩)|(refine Qa (i) ⟨Om,_,a3,?_⟩)|(refine Qa (j) ⟨Om,_,b3,?_⟩)|(refine Qa (k+1,i+1,j+1,s.1,nx,out) ⟨⟨⟨Om,hE⟩,Om,Om,Om,Om,Om⟩,by simp only;omega,?_⟩)|exact cSd|apply qc []|refine exr ?_|refine qf ?_)
    all_goals first|rfl|(simp;done)
   .obtain⟨a1,rfl,a3⟩:=hSd h1
    obtain⟨b1,rfl,b3⟩:=hRd h2
    apply qe []
    repeat' (first|apply Qb|(intro h;try exact cDd)|(refine Qa (k) ⟨Om,_,hxm,?_⟩)|(refine Qa (i) ⟨Om,_,a3,?_⟩)|(refine Qa (j) ⟨Om,_,b3,?_⟩)|(refine Qa (k+1,i+1,j+1,s.1,nx,out++[⟨1,s.1,r⟩]) ⟨⟨⟨Om,hE⟩,So,Om,Om,Om,Om⟩,by simp only;omega,?_⟩)|exact cSd|apply qc []|refine exr ?_|refine qf ?_)
    all_goals first|rfl|(simp;done)
   .obtain⟨a1,rfl,a3⟩:=hSd h1
    apply qe []
    repeat' (first|apply Qb|(intro h;try exact cDd)|(refine Qa (k) ⟨Om,_,hxm,?_⟩)|(refine Qa (i) ⟨Om,_,a3,?_⟩)|(refine Qa (k+1,i+1,j,bh,nx,out++[⟨2,s.1,[]⟩]) ⟨⟨⟨Om,hE⟩,So,Om,Om,Om,Om⟩,by simp only;omega,?_⟩)|exact cSd|apply qc []|refine exr ?_|refine qf ?_)
    all_goals first|rfl|(simp;done)
   .obtain⟨b1,rfl,b3⟩:=hRd h2
    apply qe []
    repeat' (first|apply Qb|(intro h;try exact cDd)|(refine Qa (k) ⟨Om,_,hxm,?_⟩)|(refine Qa (j) ⟨Om,_,b3,?_⟩)|(refine Qa (k+1,i,j+1,nx,nx+1,out++[⟨3,bh,r⟩]) ⟨⟨⟨Om,hE⟩,So,Om,Om,Om,Om⟩,by simp only;omega,?_⟩)|exact cSd|apply qc []|refine exr ?_|refine qf ?_)
    all_goals first|rfl|(simp;done)
  .have hkn:k=ws.length:=by omega
   subst hkn
   rw[Xv]at hE
   obtain⟨h1,h2⟩:=q12 hE.ok
   rw[h1,h2]at hE
   have hfull:=q6b hE
   rw[hfull]
   apply qe []
   repeat' (first|apply Qb|(intro h;try exact cDd)|exact cSd|apply qc []|refine exr ?_|refine qf ?_)
end Go.Proofs.YtapblfabkbdgcaaGreatDoor
