/- Contracts and plain facts that the closing text leans on (part 10). No condition of their own beyond those that each states. -/
import Derived.Test.YtlekheifonaipaaGreatDoorK9
set_option maxRecDepth 100000
set_option linter.unusedVariables false
set_option linter.unusedSimpArgs false
open And renaming intro→Qa
open Bool renaming and_eq_true→Qp,false_or→Xk
open Exists renaming intro→Qc
open Int renaming toNat_natCast→Qz,le_refl→Zd
open List renaming getElem?_eq_getElem→Qd,mem_cons→Qe,length_cons→Qf,getElem?_cons_succ→Qg,length_append→Qi,drop_eq_getElem_cons→Qj,take_append_drop→Qk,getElem?_map→Ql,getElem?_eq_some_iff→Qm,mem_append→Qn,mem_map→Qo,mem_of_getElem?→Qq,getElem?_cons_zero→Qr,getElem_mem→Qs,not_mem_nil→Qt,append_nil→Qv,mem_of_mem_take→Qx,length_nil→Qy,take_add_one→Za,mem_of_mem_drop→Zb,cons_append→Zc,getElem?_append_left→Ze,mem_singleton→Zf,set_eq_take_append_cons_drop→Zh,flatMap_nil→Zi,eq_nil_or_concat→Zj,concat_eq_append→Zk,mem_filter→Zl,mem_cons_of_mem→Zm,length_set→Zn,any_cons→Zo,map_cons→Zp,nodup_append→Zq,mem_or_eq_of_mem_set→Zr,take_length→Zt,all_eq_true→Zu,filter_cons_of_pos→Zw,filter_cons_of_neg→Zx,nodup_cons→Zz,nil_append→Xa,drop_of_length_le→Xb,reverse_singleton→Xc,find?_cons_of_pos→Xd,find?_cons_of_neg→Xe,take_of_length_le→Xf,take_left→Xg,singleton_append→Xh,getElem?_set_ne→Xj,reverse_append→Xl,length_reverse→Xm,map_map→Xo,find?_eq_none→Xp,flatMap_cons→Xq,drop_length→Xr,foldl_cons→Xt,nodup_nil→Xv,range→Xx
open List.Nodup renaming sublist→Ya
open List.Sublist renaming append→Xy,filter→Xz,refl→Yb,map→Yc
open List.cons renaming injEq→Xu
open Nat renaming le_refl→Qu,le_of_ble_eq_true→Qw,beq→Zs,zero_add→Zv,eq_of_beq_eq_true→Xi,ble→Xw,blt→Yd
open Option renaming map_some→Zy
open Option.some renaming injEq→Qb
open Prod renaming snd→Zg,fst→Xs
open Prod.mk renaming injEq→Qh
namespace Go.Pl
open Go Go.Proofs Go.Av
def LM(l:qs):Prop:=l.many=cntF l.ents
theorem qid(a b:List EntV):cntF (a++b)=cntF a+cntF b:=by simp[cntF]
theorem ql7(e:EntV)(b:List EntV):cntF (e::b)=(if 0<e.id then 1 else 0)+cntF b:=by
 by_cases h:0<e.id<;>simp[cntF,h]<;>omega
theorem zfe{l:List EntV}{i:Nat}{e:EntV}(h:l[i]?=some e):l=l.take i++e::l.drop (i+1):=by
 obtain⟨hi,rfl⟩:=Qm.1 h;rw[<-Qj hi,Qk]
theorem zk0{l:qs}(h:LM l)(id:Int)(fs:List Fld):LM (xf l id fs).2:=by
 unfold xf;split
 .exact h
 .split
  .unfold qh4
   split
   .rename_i e he
    unfold LM at h⊢;simp only;rw[h];have h1:=zfe he;have hi:=lt_of_getElem? he;rw[Zh,if_pos hi]
    conv=>lhs;rw[h1]
    rw[qid,qid,ql7,ql7]
   .exact h
  .exact h
theorem zmk{l:qs}(h:LM l)(id:Int):LM (delF l id).2:=by
 unfold delF;split
 .exact h
 .rename_i hn
  rcases qfw l id with g|⟨i,e,g,he,cq,hid1⟩
  .exact absurd (by rw[g];decide) hn
  .rw[g,Qz]
   unfold LM delL at *;simp only;rw[h];have h1:=zfe he
   conv=>lhs;rw[h1]
   rw[qid,qid,ql7,if_pos Om];omega
theorem zmy{l:qs}(h:LM l)(hn:1<=l.next)(id:Int)(fs:List Fld):LM (insF l id fs).2.2:=by
 unfold insF;split
 .exact h
 .split
  .split
   .exact h
   .unfold LM insL at *
    simp only;rw[h,qid,ql7,if_pos (by simp only;omega)]
    conv=>lhs;rw[<-Qk (atF l id+1).toNat l.ents]
    rw[qid];omega
  .exact h
theorem q6s:∀(its:List zg)(l:qs),LM l->1<=l.next->LM (its.foldl x5 l)∧1<=(its.foldl x5 l).next
 | [],l,h,hn=>⟨h,hn⟩
 |x::r,l,h,hn=>by
  rw[Xt];unfold x5;split
  .refine q6s r _ ?_ (by simp only;omega)
   unfold LM at *;simp only;rw[qq0,if_pos (by simp only;omega),h];omega
  .refine q6s r _ ?_ hn
   unfold LM at *;simp only;rw[qq0,if_neg Sx,h];omega
theorem zgd(its:List zg):LM (ofF its):=(q6s its ⟨[],1,0⟩ (by simp[LM,cntF]) (by decide)).1
end Go.Pl
namespace Go.Proofs.YtlekheifonaipaaGreatDoor
open Go Go.Av Go.RowKit Go.Proofs Go.Pl
theorem qzu{l:qs}(h:LM l)(hn:1<=l.next)(x:qm):LM (oneF l x).2.2:=by
 unfold oneF;split
 .exact zk0 h _ _
 .split
  .exact zmk h _
  .exact zmy h hn _ _
theorem q1a:∀(b:List qm)(k n:Nat)(l:qs)(ids:List Int),LM l->LB n l->n+b.length<900000->LM (kf k b l ids).2.1
 | [],k,n,l,ids,h,_,_=>h
 |x::r,k,n,l,ids,h,hB,hs=>by
  simp only[Qf]at hs;unfold kf;split
  .exact q1a r (k+1) (n+1) _ _ (qzu h hB.nx0 x) (qk2 hB Om x) Om
  .exact h
theorem zfj{n:Nat}{l:qs}(h:LM l)(hB:LB n l)(hs:n+40<900000)(b:List qm):LM (doF l b).2.1:=by
 unfold doF;split
 .rename_i he
  obtain⟨h1,h2,_⟩:=qb0 he;exact q1a b 0 n l [] h hB Om
 .exact h
theorem qyh(n:Nat)(l:qs)(x:qm)(st:List AObj)(hB:LB n l)(hM:LM l)(hK:KeyB x.fields)(hl:x.fields.length<1000000):qp E 48 [ku l,zt x] st λr st'=>r=.tu [ku (oneF l x).2.2,Iv (oneF l x).1,Iv (oneF l x).2.1.code]∧st'=st:=by
 refine ze [.a (ku l),.a (zt x)] (yc (qad _) (qr _) (qr _)) Tryz.func48 rfl rfl (λ_=>rfl) rfl λS0=>?_;have g1:=hB.len;have g2:=hB.nx0;have g3:=hB.nx1;have g4:=hB.small;unfold oneF;by_cases h1:x.kind=1
 .rw[if_pos h1]
  have hc:=λst=>q9s l x.id x.fields st Om hK hl;unfold rlR at hc;generalize xf l x.id x.fields=r at hc;apply qd [];repeat' (first|apply Qa|(intro h;try exact cDd)|exact⟨Tryz.call95⟩|refine cpe hc ?_|exact cSd|apply qb []|refine exr ?_|refine qe ?_)
 .rw[if_neg h1]
  by_cases h2:x.kind=2
  .rw[if_pos h2]
   have hc:=λst=>zdu l x.id st Om;generalize delF l x.id=r at hc;apply qd [];repeat' (first|apply Qa|(intro h;try exact cDd)|exact⟨Tryz.call96⟩|refine cpe hc ?_|exact cSd|apply qb []|refine exr ?_|refine qe ?_)
  .rw[if_neg h2]
   have hc:=λst=>zdv l x.id x.fields st Om ⟨Om,Om⟩ hM hK hl;unfold rlR4 at hc;generalize insF l x.id x.fields=r at hc;apply qd [];repeat' (first|apply Qa|(intro h;try exact cDd)|exact⟨Tryz.call97⟩|refine cpe hc ?_|exact cSd|apply qb []|refine exr ?_|refine qe ?_)
def doR(l:qs)(r:ErrV×qs×List Int):AV:=if r.1=.no then .tu [ku r.2.1,yh r.2.2,Iv (-9),Iv 0]else .tu [ku l,yh [],Iv r.1.pos,Iv r.1.code]
theorem zi6(l:qs)(r:ErrV×qs×List Int):Pure (doR l r):=by
 unfold doR;split
 .exact qlm (qad _) (qcr _) (qr _) (qr _)
 .exact qlm (qad _) (qcr _) (qr _) (qr _)
theorem zg3(n:Nat)(l:qs)(b:List qm)(st:List AObj)(hB:LB n l)(hM:LM l)(hn:n+40<900000)(hE:∀x∈b,EdB x)(hl:b.length<1000000):qp E 47 [ku l,zh b] st λr st'=>r=doR l (doF l b)∧st'=st:=by
 refine ze [.a (ku l),.a (zh b)] (zi6 _ _) Tryz.func47 rfl rfl (λ_=>rfl) rfl λS0=>?_;have s7:=λst=>qlp b st hE Om;have sb:(b.map zt).length=b.length:=Sx
 unfold doF;by_cases he:eErr b=.no
 .rw[he]at s7
  rw[if_pos he];obtain⟨p9,hb40,hg⟩:=qb0 he;apply qd [];repeat' (first|apply Qa|(intro h;try exact cDd)|exact⟨Tryz.call53⟩|refine cpe s7 ?_|exact cSd|apply qb []|refine exr ?_|refine qe ?_)
  refine zw (X:=Nat×qs×List Int) (λ(k,q,ids)=>⟨[(1,.a (zh b)),(2,.a (.pp [qga l.ents,Iv l.next])),(4,.bx 0 0),(10,.bx 1 0),(11,.tp 2),(12,.i k)],[(0,some (.cells 68 [.a zm,.i 0])),(1,some (.cells 68 [.a (qga q.ents),.i q.next])),(2,some (.tip 1 3 (ids.map λx=>Iv x)))],3⟩)
   (λ(k,q,ids)=>k<=b.length∧LB (n+k) q∧LM q∧ids.length<=k∧kf k (b.drop k) q ids=kf 0 b l []) (λ(k,q,ids)=>b.length-k) (0,l,[]) ⟨Om,hB,hM,Sx,rfl⟩ ?_ ?_
  .skip
   repeat' (first|apply Qa|(intro h;try exact cDd)|exact cSd|apply qb []|refine exr ?_|refine qe ?_)
   all_goals first|rfl|(simp;done)
  .rintro⟨k,q,ids⟩ ⟨hk,hq,hqm,fc,a8⟩
   by_cases e9:k<b.length
   .have hx:b[k]?=some b[k]:=Qd e9
    have g9:(b.map zt)[k]?=some (zt b[k]):=by rw[Ql,hx];rfl
    have hxE:=hE b[k] (Qs e9);have hxf:=(qfe (hg b[k] (Qs e9))).1;rw[Qj e9,kf]at a8;have hidl:(ids.map λx=>Iv x).length=ids.length:=Sx
    generalize b[k]=x at hx g9 hxE hxf a8;have gv:=λst=>qyh (n+k) q x st hq hqm hxE.keys Om;have nv:=qk2 hq Om x;have hlm:=qzu hqm hq.nx0 x;have ck:=λh=>qrt (l:=q) (x:=x) h;generalize oneF q x=o at gv nv hlm ck a8;obtain⟨id,e,q'⟩:=o;dsimp only at gv nv hlm ck a8;by_cases u0:e=.no
    .subst u0
     rw[if_pos rfl]at a8;by_cases h0:0<id
     .rw[if_pos h0]at a8
      apply qd [];repeat' (first|apply Qa|(intro h;try exact cDd)|(refine Qc (k) ⟨Om,_,g9,?_⟩)|exact⟨Tryz.call48⟩|refine cpe gv ?_|(refine Qc (k+1,q',ids++[id]) ⟨⟨Om,nv,hlm,So,a8⟩,by simp only;omega,?_⟩)|exact cSd|apply qb []|refine exr ?_|refine qe ?_)
      all_goals first|(simp;done)|(simp;omega)
     .rw[if_neg h0]at a8
      apply qd [];repeat' (first|apply Qa|(intro h;try exact cDd)|(refine Qc (k) ⟨Om,_,g9,?_⟩)|exact⟨Tryz.call48⟩|refine cpe gv ?_|(refine Qc (k+1,q',ids) ⟨⟨Om,nv,hlm,by first|omega|(simp only;omega),a8⟩,by simp only;omega,?_⟩)|exact cSd|apply qb []|refine exr ?_|refine qe ?_)
      all_goals first|(simp;done)|(simp;omega)
    .rw[if_neg u0]at a8
     rw[<-a8];have ck:=ck u0
     have hA:doR l (ErrV.at' (↑k) e.code,q,ids)=.tu [ku l,yh [],Iv k,Iv e.code]:=by
      unfold doR;rw[if_neg Sx]
      try rfl
     rw[hA];generalize ErrV.code e=c at gv ck;apply qd [];repeat' (first|apply Qa|(intro h;try exact cDd)|(refine Qc (k) ⟨Om,_,g9,?_⟩)|exact⟨Tryz.call48⟩|refine cpe gv ?_|exact cSd|apply qb []|refine exr ?_|refine qe ?_)
   .have e9:k=b.length:=by omega
    subst e9;rw[Xr,kf]at a8;rw[<-a8];unfold doR;rw[if_pos rfl];apply qd [];repeat' (first|apply Qa|(intro h;try exact cDd)|exact cSd|apply qb []|refine exr ?_|refine qe ?_)
 .obtain⟨p,m,hp,hm,h0⟩:=zam b
  have hz:m≠0:=λh=>he (h0.1 h);rw[if_neg he];unfold doR;simp only;rw[if_neg he];rw[hp,hm]at s7⊢;apply qd [];repeat' (first|apply Qa|(intro h;try exact cDd)|exact⟨Tryz.call53⟩|refine cpe s7 ?_|exact cSd|apply qb []|refine exr ?_|refine qe ?_)
end Go.Proofs.YtlekheifonaipaaGreatDoor
namespace Go.Pl
open Go Go.Proofs Go.Proofs.YtlekheifonaipaaGreatDoor
theorem qx8(x:zg)(r:List zg):wm (x::r)=x.raw++wm r:=by simp[wm]
theorem zkn{its:List zg}{x:zg}(h:x∈its):x.raw.length<=(wm its).length:=by
 induction its with
 |nil=>simp at h
 |cons y r ih=>
  rw[qx8,Qi];rcases Qe.1 h with rfl|h
  .omega
  .have:=ih h
   omega
structure PR (m:Nat) (p:PSt):Prop where
 tot:(wm p.items).length+(zj p.block).length<=m
 fl:∀x∈p.items,x.fields.length<900000
theorem qq9{m:Nat}{p:PSt}(h:PR m p):PR m (ka p).2:=by
 unfold ka;split
 .exact h
 .split
  .exact h
  .split
   .exact h
   .exact⟨h.tot,h.fl⟩
theorem zfc{m:Nat}{p:PSt}(h:PR m p)(hf:p.fields.length<900000):PR m (y4 p):=by
 have ht:=h.tot;unfold y4;split
 .exact⟨by simp only[zj,Zi,Qy];omega,h.fl⟩
 .refine⟨?_,λx hx=>?_⟩
  .simp only[qg7,qg8,Qi]
   simp only[zj,Zi,Qy]at ht⊢;omega
  .simp only[Qn,Zf]at hx
   rcases hx with hx|rfl
   .exact h.fl x hx
   .exact hf
theorem qzl{m n:Nat}{p:PSt}(h:PR m p)(hB:PB n p)(hs:n+1<900000):PR m (endP p).2:=by
 unfold endP;split
 .exact h
 .have:=(qjr hB hs).fields
  exact zfc (qq9 h) Om
theorem zem{m n:Nat}{p:PSt}{no:Int}{text:qa}{ended:Bool}{kind:Int}(h:PR m p)(hB:PB n p)(hs:n+1<900000):PR m (j6 p no text ended kind).2:=by
 unfold j6;split
 .split
  .exact h
  .split
   .exact⟨h.tot,h.fl⟩
   .exact qq9 ⟨h.tot,h.fl⟩
 .split
  .exact qzl h hB hs
  .exact qq9 h
theorem qaq(a b:List qa):zj (a++b)=zj a++zj b:=by simp[zj]
theorem zle{m n:Nat}{p:PSt}{no:Int}{text:qa}{ended:Bool}(h:PR m p)(hB:PB n p)(hs:n+1<900000):PR (m+text.length+1) (xh p no text ended).2:=by
 have more:∀{q:PSt},PR m q->PR (m+text.length+1) q:=λh=>⟨by have:=h.tot;omega,h.fl⟩;have h2:PR m (j6 p no text ended (qx text)).2:=zem h hB hs;have ht:=h2.tot;unfold xh;split
 .exact more h
 .split
  .exact more h
  .split
   .refine⟨?_,λx hx=>?_⟩
    .simp only[qg7,qg8,Qi,Qf,Qy]
     omega
    .simp only[Qn,Zf]at hx
     rcases hx with hx|rfl
     .exact h2.fl x hx
     .simp
   .split
    .refine⟨?_,h2.fl⟩
     simp only[vh,qaq,Qi];simp only[zj,Xq,Zi,Qi,Qf,Qy]at ht⊢;omega
    .refine⟨?_,h2.fl⟩
     simp only[qaq,Qi];simp only[zj,Xq,Zi,Qi,Qf,Qy]at ht⊢;omega
theorem znp:∀(n:Nat)(rest:qa)(k m:Nat)(p:PSt),rest.length<=n->PB (4*k) p->PR m p->k+rest.length<=60000->PR (m+2*rest.length) (runL k (zo rest) p).2:=by
 intro n
 induction n with
 |zero=>
  intro rest k m p hr hB hR hk;obtain rfl:rest=[]:=List.eq_nil_of_length_eq_zero Om;rw[vv,runL]
  exact qzl hR hB Om
 |succ n ih=>
  intro rest k m p hr hB hR hk;by_cases b9:rest=[]
  .subst b9
   rw[vv,runL];exact qzl hR hB Om
  .have hu:=vl 10 rest
   have dx:=vm 10 rest;have hr0:0<rest.length:=List.length_pos_iff.2 b9;rw[wl b9];simp only[runL];have ml:=qvr (no:=k) (text:=upto 10 rest) (ended:=decide (10∈rest)) hB Om Om;have mq:=zle (no:=k) (text:=upto 10 rest) (ended:=decide (10∈rest)) hR hB Om;split
   .exact⟨by have:=hR.tot;simp only;omega,hR.fl⟩
   .have:=ih (past 10 rest) (k+1) _ _ Om ml mq Om
    exact⟨by have:=this.tot;omega,this.fl⟩
theorem zmz(text:qa):(wm (itsE text)).length<=120000∧∀x∈itsE text,x.fields.length<900000:=by
 unfold itsE;split
 .simp[wm]
 .have h:=znp text.length text 0 0 p0 (Qu _) zdk ⟨by simp[p0,wm,zj],by simp[p0]⟩ Om
  unfold jl;split
  .simp[wm]
  .have:=h.tot
   exact⟨by simp only;omega,h.fl⟩
def LI(l:qs):Prop:=∀e∈l.ents,e.x.raw.length<=1000000∧e.x.fields.length<900000
theorem zgf:∀(its:List zg)(l:qs),LI l->(∀x∈its,x.raw.length<=1000000∧x.fields.length<900000)->LI (its.foldl x5 l)
 | [],l,h,_=>h
 |x::r,l,h,hx=>by
  rw[Xt];refine zgf r _ ?_ λy hy=>hx y (by simp[hy]);have h1:=hx x Sx;unfold x5;split
  .intro e he
   simp only[Qn,Zf]at he;rcases he with he|rfl
   .exact h e he
   .exact h1
  .intro e he
   simp only[Qn,Zf]at he;rcases he with he|rfl
   .exact h e he
   .exact h1
theorem zo2(text:qa):LI (ofF (itsE text)):=by
 obtain⟨h1,h2⟩:=zmz text;refine zgf _ _ (by simp[LI]) λx hx=>⟨?_,h2 x hx⟩;have:=zkn hx;omega
theorem q18(fs:List Fld):(yt fs).raw.length<=1000000∧(yt fs).fields.length<900000:=by
 unfold yt;split
 .rename_i h
  obtain⟨_,g1,g2⟩:=qcm h;have:=qgy fs g2;exact⟨by simp only;omega,by simp only;omega⟩
 .exact⟨Sx,Sx⟩
theorem zkz{l:qs}(h:LI l)(id:Int)(fs:List Fld):LI (xf l id fs).2:=by
 unfold xf;split
 .exact h
 .split
  .unfold qh4
   split
   .intro y hy
    rcases Zr hy with hy|rfl
    .exact h y hy
    .exact q18 fs
   .exact h
  .exact h
theorem zmj{l:qs}(h:LI l)(id:Int):LI (delF l id).2:=by
 unfold delF;split
 .exact h
 .intro y hy
  simp only[delL,Qn]at hy;rcases hy with hy|hy
  .exact h y (Qx hy)
  .exact h y (Zb hy)
theorem zmx{l:qs}(h:LI l)(id:Int)(fs:List Fld):LI (insF l id fs).2.2:=by
 unfold insF;split
 .exact h
 .split
  .split
   .exact h
   .intro y hy
    simp only[insL,Qn,Qe]at hy;rcases hy with hy|rfl|hy
    .exact h y (Qx hy)
    .exact q18 fs
    .exact h y (Zb hy)
  .exact h
theorem qwj:∀(its:List zg)(b:Bool),(∀x∈its,x.raw.length<=1000000)->(wm (vo b its)).length<=1000001*its.length
 | [],b,h=>by simp[vo,wm]
 |x::r,b,h=>by
  have ih:=qwj r (decide (x.kind≠1)) λy hy=>h y (by simp[hy]);have hx:=h x Sx;rw[vo,qg7,Qi];split
  .rw[qx8,qg8]
   simp only[Qi,Qf,Qy];omega
  .rw[qg8]
   simp only[Qf];omega
theorem q79{n:Nat}{l:qs}(hB:LB n l)(h:LI l):(qsz l).length<=1000000000000:=by
 have h1:=qwj (jw l) false λx hx=>by
  obtain⟨e,he,rfl⟩:=Qo.1 hx;exact(h e he).1
 have h2:=hB.len;have h3:=hB.small;unfold qsz qb6;have:(jw l).length=l.ents.length:=by simp[jw]
 omega
end Go.Pl
namespace Go.Proofs.YtlekheifonaipaaGreatDoor
open Go Go.Av Go.RowKit Go.Proofs Go.Pl
theorem zbe{l:qs}(h:LI l)(x:qm):LI (oneF l x).2.2:=by
 unfold oneF;split
 .exact zkz h _ _
 .split
  .exact zmj h _
  .exact zmx h _ _
theorem q09:∀(b:List qm)(k:Nat)(l:qs)(ids:List Int),LI l->LI (kf k b l ids).2.1
 | [],k,l,ids,h=>h
 |x::r,k,l,ids,h=>by
  unfold kf;split
  .exact q09 r (k+1) _ _ (zbe h x)
  .exact h
theorem zol{l:qs}(h:LI l)(b:List qm):LI (doF l b).2.1:=by
 unfold doF;split
 .exact q09 b 0 l [] h
 .exact h
theorem za0{n:Nat}{l:qs}(hB:LB n l)(h:LI l):ItsB (jw l):=by
 have h1:=hB.len;have h2:=hB.small;refine⟨by simp[jw];omega,λx hx=>?_⟩;obtain⟨e,he,rfl⟩:=Qo.1 hx;have:=(h e he).2;omega
theorem qtl:∀(b:List qm)(k:Nat)(l:qs)(ids:List Int),(kf k b l ids).1≠.no->(kf k b l ids).1.code≠0
 | [],k,l,ids,h=>by simp[kf]at h
 |x::r,k,l,ids,h=>by
  unfold kf at h⊢;split
  .rename_i he
   rw[if_pos he]at h;exact qtl r _ _ _ h
  .rename_i he
   exact qrt he
theorem zi5{l:qs}{b:List qm}(h:(doF l b).1≠.no):(doF l b).1.code≠0:=by
 unfold doF at h⊢;split
 .rename_i he
  rw[if_pos he]at h;exact qtl _ _ _ _ h
 .rename_i he
  exactλh'=>he ((qdr b).1 h')
def lR(b:jy)(n:Nat):qs:=if jx b.base=.no then(jh b.base (b.batches.take n)).2.l else⟨[],0,0⟩
def gR(b:jy)(n:Nat):List (List Int):=if(jh b.base (b.batches.take n)).1=.no then(jh b.base (b.batches.take n)).2.given else []
theorem q19{base:qa}:∀(bs:List (List qm))(k:Nat)(r:RunV),k+bs.length<=14000->LB (300000+40*k) r.l->LM r.l->LI r.l->LB 860000 (zz bs r).2.l∧LM (zz bs r).2.l∧LI (zz bs r).2.l
 | [],k,r,hk,h1,h2,h3=>⟨qg1 h1 (by simp at hk;omega) Om,h2,h3⟩
 |b::q,k,r,hk,h1,h2,h3=>by
  simp only[Qf]at hk;unfold zz;split
  .exact q19 (base:=base) q (k+1) _ Om (qg1 (qw2 h1 Om b) Om Om) (zfj h2 h1 Om b) (zol h3 b)
  .exact⟨qg1 h1 Om Om,h2,h3⟩
theorem qvg(base:qa)(bs:List (List qm))(h:bs.length<=14000):LB 860000 (jh base bs).2.l∧LM (jh base bs).2.l∧LI (jh base bs).2.l:=by
 unfold jh;split
 .exact q19 (base:=base) bs 0 _ Om (q6r base) (zgd _) (zo2 base)
 .exact⟨⟨Om,by simp[ofF],by simp[ofF],by simp[ofF],by simp[ofF],by simp[ofF]⟩,by simp[ofF,LM,cntF],by simp[ofF,LI]⟩
theorem qqi(b:jy)(n:Nat)(st:List AObj)(hB:BkB b)(hn:n<=b.batches.length):qp E 22 [qas b,Iv n] st λr st'=>r=.tu [ku (lR b n),qnu (gR b n),Iv (jh b.base (b.batches.take n)).1.pos,Iv (jh b.base (b.batches.take n)).1.code]∧st'=st:=by
 refine ze [.a (qas b),.i n] (qlm (qad _) (qi7 _) (qr _) (qr _)) Tryz.func22 rfl rfl (λ_=>rfl) rfl λS0=>?_;have fj:=λst=>zg7 b.base st hB.base;have nv:=q6r b.base;have hlm:=zgd (itsE b.base);have cz:=hB.len;have dp:(b.batches.take n).length=n:=So
 have hbb:∀x∈b.batches.take n,BB x∧x.length<=5000:=λx hx=>hB.bat x (Qx hx)
 have hix:∀k,k<n->∃x,(b.batches.take n)[k]?=some x∧(b.batches.map zh)[k]?=some (zh x)∧(b.batches.take n).drop k=x::(b.batches.take n).drop (k+1)∧BB x:=λk hk=>by
  have h1:(b.batches.take n)[k]?=some (b.batches.take n)[k]:=Qd Om;refine⟨_,h1,?_,by rw[Qj Om],(hbb _ (Qs _)).1⟩;rw[Ql];have h2:(b.batches.take n)[k]?=b.batches[k]?:=by rw[List.getElem?_take,if_pos hk]
  rw[<-h2,h1]
  try rfl
 unfold lR gR jh ofR at *;generalize b.batches.take n=bs at dp hix;generalize itsE b.base=its at nv fj hlm;by_cases he:jx b.base=.no
 .rw[he]at fj
  simp only[if_pos he];rw[if_pos rfl]at fj;apply qd [];repeat' (first|apply Qa|(intro h;try exact cDd)|exact⟨Tryz.call46⟩|refine cpe fj ?_|exact cSd|apply qb []|refine exr ?_|refine qe ?_)
  refine zw (X:=Nat×RunV) (λ(k,r)=>⟨[(1,.i n),(2,.a (.pp [Iv b.gen,Sv b.base,qb7 b.batches,yh b.ends,Sv b.tail])),(4,.bx 0 0),(8,.bx 1 0),(11,.tp 2),(12,.i k)],[(0,some (.cells 68 [.a zm,.i 0])),(1,some (.cells 68 [.a (qga r.l.ents),.i r.l.next])),(2,some (.tip 1 51 (r.given.map yh)))],3⟩)
   (λ(k,r)=>k<=n∧LB (300000+40*k) r.l∧LM r.l∧r.given.length=k∧zz (bs.drop k) r=zz bs ⟨ofF its,[],[]⟩) (λ(k,r)=>n-k) (0,⟨ofF its,[],[]⟩) ⟨Om,nv,hlm,rfl,rfl⟩ ?_ ?_
  .skip
   repeat' (first|apply Qa|(intro h;try exact cDd)|exact cSd|apply qb []|refine exr ?_|refine qe ?_)
   all_goals first|rfl|(simp;done)
  .rintro⟨k,r⟩ ⟨hk,hq,hqm,rg,a8⟩
   by_cases e9:k<n
   .obtain⟨x,hx,g9,hdr,hxb⟩:=hix k e9
    rw[hdr,zz]at a8;have mc:=λst=>zg3 (300000+40*k) r.l x st hq hqm Om hxb.2 hxb.1;have hgm:(r.given.map yh).length=k:=by simp[rg]
    unfold doR at mc;by_cases hok:(doF r.l x).1=.no
    .rw[if_pos hok]at a8
     simp only[if_pos hok]at mc;have hgl2:(qaj r x).given.length=k+1:=by simp[qaj,rg]
     have hlb3:LB (300000+40*(k+1)) (qaj r x).l:=qg1 (qw2 hq Om x) Om Om;have hlm3:LM (qaj r x).l:=zfj hqm hq Om x;apply qd [];repeat' (first|apply Qa|(intro h;try exact cDd)|(refine Qc (k) ⟨Om,_,g9,?_⟩)|exact⟨Tryz.call47⟩|refine cpe mc ?_|(refine Qc (k+1,qaj r x) ⟨⟨Om,hlb3,hlm3,hgl2,a8⟩,by simp only;omega,?_⟩)|exact cSd|apply qb []|refine exr ?_|refine qe ?_)
     all_goals first|(simp[qaj];done)|(simp[qaj];omega)
    .rw[if_neg hok]at a8
     rw[<-a8];simp only[if_neg hok]at mc;have ck:=zi5 hok;generalize(doF r.l x).1.code=c at mc ck;simp only[reduceCtorEq,if_false,rg];apply qd [];repeat' (first|apply Qa|(intro h;try exact cDd)|(refine Qc (k) ⟨Om,_,g9,?_⟩)|exact⟨Tryz.call47⟩|refine cpe mc ?_|exact cSd|apply qb []|refine exr ?_|refine qe ?_)
   .have e9:k=n:=by omega
    subst e9;rw[Xb Om,zz]at a8;rw[<-a8,if_pos rfl];apply qd [];repeat' (first|apply Qa|(intro h;try exact cDd)|exact cSd|apply qb []|refine exr ?_|refine qe ?_)
 .simp only[if_neg he]at fj⊢
  obtain⟨its',p,m,lv,hp,hm,ln⟩:=qr2 b.base hB.base;have hz:m≠0:=λh=>he (ln.1 h);rw[<-hp,<-hm]at fj⊢;apply qd [];repeat' (first|apply Qa|(intro h;try exact cDd)|exact⟨Tryz.call46⟩|refine cpe fj ?_|exact cSd|apply qb []|refine exr ?_|refine qe ?_)
theorem zg8(b:jy)(st:List AObj)(hB:BkB b):qp E 45 [qas b] st λr st'=>r=.tu [ku (lR b b.batches.length),Iv (jh b.base b.batches).1.pos,Iv (jh b.base b.batches).1.code]∧st'=st:=by
 refine ze [.a (qas b)] (yc (qad _) (qr _) (qr _)) Tryz.func45 rfl rfl (λ_=>rfl) rfl λS0=>?_;have h1:=λst=>qqi b b.batches.length st hB (Qu _);rw[Zt]at h1;have o0:(b.batches.map zh).length=b.batches.length:=Sx
 rw[<-o0]at h1⊢;apply qd [];repeat' (first|apply Qa|(intro h;try exact cDd)|exact⟨Tryz.call22⟩|refine cpe h1 ?_|exact cSd|apply qb []|refine exr ?_|refine qe ?_)
theorem q2k{text:qa}(h:(zx text).1=.no):BkB (zx text).2:=qdz (qic (text:=text) (b:=(zx text).2) (by rw[<-h]))
theorem zkb{text:qa}(h:jx text≠.no):(jx text).code≠0:=by
 cases lw:jx text with
 |no=>exact absurd lw h
 |num n=>have:=qph lw;simp[ErrV.code];omega
 |at' a n=>have:=qrv lw;simpa[ErrV.code]using this
theorem qqf:∀(bs:List (List qm))(r:RunV),(zz bs r).1≠.no->(zz bs r).1.code≠0
 | [],r,h=>by simp[zz]at h
 |b::q,r,h=>by
  unfold zz at h⊢;split
  .rename_i he
   rw[if_pos he]at h;exact qqf q _ h
  .exact(by decide:(10:Int)≠0)
theorem qx5{base:qa}{bs:List (List qm)}(h:(jh base bs).1≠.no):(jh base bs).1.code≠0:=by
 unfold jh at h⊢;split
 .rename_i he
  rw[if_pos he]at h;exact qqf _ _ h
 .rename_i he
  exact zkb he
def qyn(q:ErrV×jy×qs):AV:=.tu [qas q.2.1,ku (if q.1=.no then q.2.2 else⟨[],0,0⟩),Iv q.1.pos,Iv q.1.code]
theorem qua(text:qa)(st:List AObj)(hl:text.length<1000000):qp E 21 [Sv text] st λr st'=>r=qyn (z8 text)∧st'=st:=by
 refine ze [.s text] (qlm (qfc _) (qad _) (qr _) (qr _)) Tryz.func21 rfl rfl (λ_=>rfl) rfl λS0=>?_;have r7:=λst=>qt7 text st hl;unfold z8 qyn;by_cases hb:(zx text).1=.no
 .have hBk:=q2k hb
  have hpr:jx (zx text).2.base=.no:=(qic (text:=text) (b:=(zx text).2) (by rw[<-hb])).parse;simp only[if_pos hb];unfold qbo at r7;rw[hb]at r7;generalize(zx text).2=b at r7 hBk hpr;have fj:=λst=>zg8 b st hBk;have hlr:lR b b.batches.length=(jh b.base b.batches).2.l:=by unfold lR;rw[if_pos hpr,Zt]
  rw[hlr]at fj;have ck:=@qx5 b.base b.batches;generalize jh b.base b.batches=p at fj ck;obtain⟨e,r⟩:=p;dsimp only at fj ck⊢;by_cases he:e=.no
  .subst he
   rw[if_pos rfl];apply qd [];repeat' (first|apply Qa|(intro h;try exact cDd)|exact⟨Tryz.call44⟩|refine cpe r7 ?_|exact⟨Tryz.call45⟩|refine cpe fj ?_|exact cSd|apply qb []|refine exr ?_|refine qe ?_)
  .have ck:=ck he
   simp only[if_neg he];generalize e.code=c at fj ck;generalize e.pos=c2 at fj;unfold qar;apply qd [];repeat' (first|apply Qa|(intro h;try exact cDd)|exact⟨Tryz.call44⟩|refine cpe r7 ?_|exact⟨Tryz.call45⟩|refine cpe fj ?_|exact cSd|apply qb []|refine exr ?_|refine qe ?_)
 .have ck:=qkj hb
  simp only[if_neg hb];unfold qbo at r7;generalize(zx text).1.code=c at r7 ck;generalize(zx text).1.pos=c2 at r7;unfold qar;apply qd [];repeat' (first|apply Qa|(intro h;try exact cDd)|exact⟨Tryz.call44⟩|refine cpe r7 ?_|exact cSd|apply qb []|refine exr ?_|refine qe ?_)
def qhh:qa:=[65,58,32,49,10]
theorem zd3(text:qa):LB 860000 (z8 text).2.2∧LI (z8 text).2.2:=by
 have h0:LB 860000 (ofF [])∧LI (ofF []):=⟨⟨Om,by simp[ofF],by simp[ofF],by simp[ofF],by simp[ofF],by simp[ofF]⟩,by simp[ofF,LI]⟩;unfold z8;split
 .rename_i hb
  have hBk:=q2k hb;split
  .have:=qvg (zx text).2.base (zx text).2.batches hBk.len
   exact⟨this.1,this.2.2⟩
  .exact h0
 .exact h0
theorem q6t{e:ErrV}(h:e≠.no->e.code≠0):okE e:=by
 cases e with
 |no=>trivial
 |num n=>exact h Sx
 |at' a n=>exact h Sx
theorem qjf{text:qa}(h:(z8 text).1≠.no):(z8 text).1.code≠0:=by
 unfold z8 at h⊢;split
 .rename_i hb
  rw[if_pos hb]at h;split
  .rename_i hp
   rw[if_pos hp]at h;exact absurd rfl h
  .rename_i hp
   exact qx5 hp
 .rename_i hb
  exact qkj hb
end Go.Proofs.YtlekheifonaipaaGreatDoor
namespace Go.Pl
open Go Go.Proofs
def qcs:List EntV->Option (EntV×List EntV)
 | []=>none
 |e::r=>if 0<e.id then some (e,r)else qcs r
def stzF(es:List EntV):List (Int×List Fld):=(es.filter λe=>decide (0<e.id)).map λe=>(e.id,e.x.fields)
theorem qpd:∀{r:List EntV},qcs r=none->stzF r=[]
 | [],_=>rfl
 |e::r,h=>by
  unfold qcs at h;split at h
  .simp at h
  .rename_i h0
   have:=qpd h
   simpa[stzF,h0]using this
theorem qpe:∀{r:List EntV}{e:EntV}{q:List EntV},qcs r=some (e,q)->0<e.id∧e∈r∧stzF r=(e.id,e.x.fields)::stzF q∧q.length<r.length∧∀y∈q,y∈r
 |x::r,e,q,h=>by
  unfold qcs at h;split at h
  .rename_i h0
   simp only[Qb,Qh]at h;obtain⟨rfl,rfl⟩:=h;exact⟨h0,Sx,by simp[stzF,h0],Sx,λy hy=>by simp[hy]⟩
  .rename_i h0
   obtain⟨h1,h2,h3,h4,h5⟩:=qpe h;exact⟨h1,by simp[h2],by simpa[stzF,h0]using h3,So,λy hy=>by simp[h5 y hy]⟩
end Go.Pl
namespace Go.Proofs.YtlekheifonaipaaGreatDoor
open Go Go.Av Go.RowKit Go.Proofs Go.Pl
theorem zo4{m:Nat}{T:TypeId}{S':List AObj}{cs0:List AV}(h:S'.length=m∨∃cs,S'[m]?=some (.cells 0 T cs)):∃cs,(S'++[AObj.cells 0 T cs0])[m]?=some (.cells 0 T cs):=by
 rcases h with rfl |⟨cs,h⟩
 .exact⟨cs0,Sx⟩
 .exact⟨cs,by rw[Ze (lt_of_getElem? h)];exact h⟩
theorem zo5{m:Nat}{T:TypeId}{S':List AObj}(h:S'.length=m∨∃cs,S'[m]?=some (.cells 0 T cs)):m<=S'.length:=by
 rcases h with rfl |⟨cs,h⟩
 .omega
 .exact Nat.le_of_lt (lt_of_getElem? h)
theorem qn6{L:List (Tmp×AV)}{st:List AObj}{df:List Nat}{s:AS}(h:StA L st df s):StA L (st++[]) df s:=by
 rw[Qv];exact h
theorem zlv(l:qs)(o kb n m:Nat)(I:List EntV->List AObj->Prop)(D:List AObj->Prop)(S:List AObj)(hm:S.length=m)(hn:n<=m)(hl:l.ents.length<1000000)(h0:I l.ents S)
  (hI:∀r S',I r S'->S'[kb]?=some (.cells 0 54 [v6 l]))
  (e7:∀r S' S'',Ext n S' S''->I r S'->I r S'')
  (hY:∀r e q S' cs,I r S'->S'[m]?=some (.cells 0 168 cs)->qcs r=some (e,q)->yz E o [entA e] S' λb S''=>S''[m]?=some (.cells 0 168 cs)∧(b=true->I q S'')∧(b=false->D S'')):
  qp E 218 [.yd o,.bx kb 0 0] S λr S'=>(∃i,qcs i=none∧I i S')∨D S':=by
 refine qq Tryz.func218 rfl (Qw rfl) ?_;have hb:=hI _ S h0;have sb:(l.ents.map entA).length=l.ents.length:=Sx
 repeat' (first|apply qo|apply qy|apply qf|apply qh|apply qj|(apply qc;rfl;apply cd_f;exact cRa)|(apply jk;rfl;rfl;rfl;rfl)|(apply yl;rfl;rfl;rfl;rfl)|(apply jq;rfl;rfl;rfl)|(apply ww;rfl;rfl)|(apply qbl;rfl;rfl;rfl)|apply qv|(apply qbk;rfl;rfl;exact hb;rfl;rfl))
 refine jr (λ(k:Nat)s=>∃S' r,I r S'∧(S'.length=m∨∃cs,S'[m]?=some (.cells 0 168 cs))∧k<=l.ents.length∧qcs r=qcs (l.ents.drop k)∧StA [(0,.yd o),(10,.sl 4 (l.ents.map entA) none),(11,Iv l.ents.length),(12,Iv k)] (S'++[]) [] s) (λk=>l.ents.length-k) 0
  ⟨_,_,e7 _ _ _ (qig Om) h0,.inl (by simpa using hm),Om,Sx,qn6 (z6 ⟨rfl,rfl,congrArg (λn:Nat=>Iv (n:Int)) sb,rfl,trivial⟩)⟩ ?_
 rintro k _ ⟨S',r,hi,bz,hk,bt,t,rfl⟩;have o0:=zo5 bz;by_cases e9:k<l.ents.length
 .have hx:l.ents[k]?=some l.ents[k]:=Qd e9
  have g9:(l.ents.map entA)[k]?=some (entA l.ents[k]):=by rw[Ql,hx];rfl
  rw[Qj e9,qcs]at bt;generalize l.ents[k]=e at hx g9 bt;obtain⟨cs,sr⟩:=zo4 (cs0:=(entA e).cells) bz;by_cases he:0<e.id
  .rw[if_pos he]at bt
   repeat' (first|apply qo|apply qy|apply qf|apply qh|apply qj|(apply qt;rfl;rfl;rfl)|(apply qw;rfl;rfl;rfl;rfl)|(apply xd;exact cAo)|(apply qc;rfl;apply va;exact cAo)|(apply j7;rfl;rfl)|(apply zk;rfl;rfl;rfl)|(apply jq;rfl;rfl;rfl)|(apply jt;(iterate 5 rfl))|(apply jc;(iterate 11 rfl))|apply qv|(apply kp (n:=k);(iterate 5 rfl);exact g9))
   apply qdf (o:=o) rfl;refine yz.mono (hY r e _ _ cs (e7 _ _ _ (qig Om) hi) sr bt) ?_;rintro b S2 ⟨h1,h2,h3⟩
   show AOps _ _ _ _ _ _ _
   cases b
   .skip
    repeat' (first|apply qh|(apply ja;rfl)|(apply qw;rfl;rfl;rfl;rfl)|(apply xd;exact cAo)|(apply qi;rfl;apply w6;exact cAo)|(apply qc;rfl;apply qi3;exact cRa)|apply qu)
    exact qn rfl (y3 rfl) (.inr (h3 rfl))
   .skip
    repeat' (first|apply qf|apply qh|apply qj|(apply ja;rfl)|(apply qw;rfl;rfl;rfl;rfl)|(apply xd;exact cAo)|(apply qi;rfl;apply w6;exact cAo)|(apply qc;rfl;apply qi2;exact cRa)|(apply zn;rfl;rfl;exact q6 Om Om)|apply qv)
    exact⟨k+1,⟨_,_,h2 rfl,.inr ⟨cs,h1⟩,Om,rfl,qn6 (z6 ⟨rfl,rfl,rfl,rfl,trivial⟩)⟩,Om⟩
  .rw[if_neg he]at bt
   repeat' (first|apply qo|apply qy|apply qf|apply qh|apply qj|(apply qt;rfl;rfl;rfl)|(apply qw;rfl;rfl;rfl;rfl)|(apply xv;exact cAo)|(apply qi;rfl;apply wu;exact cAo)|(apply qc;rfl;apply va;exact cAo)|(apply qc;rfl;apply cd_f;exact cRa)|(apply zn;rfl;rfl;exact q6 Om Om)|(apply j7;rfl;rfl)|(apply zk;rfl;rfl;rfl)|(apply jq;rfl;rfl;rfl)|(apply jt;(iterate 5 rfl))|(apply jc;(iterate 11 rfl))|apply qv|(apply kp (n:=k);(iterate 5 rfl);exact g9))
   exact⟨k+1,⟨_,_,e7 _ _ _ (qig Om) hi,.inr ⟨cs,sr⟩,Om,bt,qn6 (z6 ⟨rfl,rfl,rfl,rfl,trivial⟩)⟩,Om⟩
 .rw[Xb Om,qcs]at bt
  repeat' (first|apply qo|apply qf|apply qh|(apply qt;rfl;rfl;rfl)|(apply qc;rfl;apply vq;exact cAo)|apply z7)
  exact qn rfl (y3 rfl) (.inl ⟨r,bt,e7 _ _ _ (qig Om) hi⟩)
def allY(r:List EntV):Option (SV×List EntV):=(qcs r).map λx=>(.a (entA x.1),x.2)
theorem zn6(l:qs)(hl:l.ents.length<1000000):ItC 218 54 [v6 l] (evY allY) l.ents:=⟨λo kb n m I D S hm hn h0 hI e7 hY=>by
 refine(zlv l o kb n m I D S hm hn hl h0 hI e7 λr e q S' cs hi bz hx=>?_).mono ?_
 .refine(hY r (entA e) q S' [.cells 0 168 cs] hi (λj y hy=>?_) (by simp[evY,allY,hx,SV.ev])).mono λb S'' ⟨h1,h2,h3⟩=>⟨by have:=h1 0 _ rfl;simpa using this,h2,h3⟩
  match j with
  |0=>
   simp only[Qr,Qb]at hy;subst hy
   exact⟨bz,qbd rfl⟩
  |j+1=>simp at hy
 .rintro r S' (⟨i,h1,h2⟩|h)
  .exact .inl ⟨i,by simp[evY,allY,h1],h2⟩
  .exact .inr h⟩
theorem zf6(l:qs):vb E 183 [.a (v6 l)] 0 (hpF []) ⟨.fn (.func 218) [] [.bx 0 0],kr [],[(0,some (.cells 54 [.a (v6 l)]))]++vw [],1⟩:=by
 refine xl [.a (v6 l)] [] 0 (.fn (.func 218) [] [.bx 0 0]) [(0,some (.cells 54 [.a (v6 l)]))] 1 Tryz.func183 rfl rfl rfl rfl λS F ρ=>?_;apply qd [1];repeat' (first|apply Qa|(intro h;try exact cDd)|exact cSd|apply qb [1]|refine exr ?_|refine qe ?_)
end Go.Proofs.YtlekheifonaipaaGreatDoor
namespace Go.Pl
open Go Go.Proofs
def qep(id:Int):Nat->List (Int×List Fld)->Int
 |_,[]=> -1
 |k,x::r=>if x.1=id then(k:Int)else qep id (k+1) r
def qf4(l:qs)(id:Int):Int:=qep id 0 (stzF l.ents)
end Go.Pl
namespace Go.Proofs.YtlekheifonaipaaGreatDoor
open Go Go.Av Go.RowKit Go.Proofs Go.Pl
@[reducible] def stzA (x : Int × List Fld) : AV := .ag [Iv x.1, jd x.2]
@[reducible] def q3v (s : List (Int × List Fld)) : AV := .sl 2 (s.map stzA) none
theorem qyw(s:List (Int×List Fld)):Pure (q3v s):=qbi λx hx=>by
 obtain⟨f,_,rfl⟩:=Qo.1 hx;intro y hy;simp only[AV.cells,Qe,Qt,or_false]at hy;rcases hy with rfl|rfl
 .exact qr _
 .exact qa5 _
theorem qpx(es:List EntV):(stzF es).length<=es.length:=by
 unfold stzF;rw[List.length_map];exact List.length_filter_le _ _
theorem qr5{N:Nat}{B:Bs}{C:Conf}{Q:Exit->Conf->Prop}{X:Type}{f:Operand}{p:Tmp}{asg body:Code}(l:qs)(kb n0:Nat)(ks:List Nat)(I:X->Conf)(sl0:List (Nat×SV))(P:List EntV->X->Prop)(D:Code->X->Prop)(x0:X)(h0:P l.ents x0)
  (he:EntA B.n0 C (I x0)) (hz:¬B.dz) (hl:l.ents.length<1000000) (fm:∀x,(I x).sl=sl0)
  (hf:sval N sl0 f=some (.fn (.func 218) [] [.bx kb 0]))
  (hkb:∀x,lkS (I x).hp kb=some (some (.cells 54 [.a (v6 l)])))
  (hr:∀x,qbu n0 ks (I x).sl (I x).hp (I x).nx=true) (h0r:(ksIn n0 ks (I x0).hp&&Xw B.n0 n0)=true)
  (hb:∀r e q x,P r x->qcs r=some (e,q)->RA E N n0 asg (λF ρ C1=>RB E N F ρ n0 body (rndQ n0 (P q) D I) C1) ⟨(p,.a (entA e))::(I x).sl,(I x).hp,(I x).nx⟩)
  (hn:∀r x,qcs r=none->P r x->Q .normal (I x)) (hd:∀c x,D c x->q3p Q c (I x)):Sm E none N B (.rangeFunc f #[p] asg body) Q C:=by
 refine qud (zn6 l hl) Tryz.call218 (λi v j h=>?_) kb n0 [.a (v6 l)] (λ_=>rfl) ks I sl0 P D x0 h0 he hz fm hf hkb hr h0r (λi x v j hp h=>?_) (λi x h hp=>?_) hd
 .unfold allY at h
  cases hx:qcs i with
  |none=>rw[hx]at h;simp at h
  |some y=>
   rw[hx]at h;simp only[Zy,Qb,Qh]at h;rw[<-h.1]
   try rfl
 .unfold allY at h
  cases hx:qcs i with
  |none=>rw[hx]at h;simp at h
  |some y=>
   rw[hx]at h;simp only[Zy,Qb,Qh]at h;obtain⟨h1,h2⟩:=h;rw[<-h1,<-h2];exact hb i y.1 y.2 x hp hx
 .unfold allY at h
  cases hx:qcs i with
  |none=>exact hn i x hx hp
  |some y=>rw[hx]at h;simp at h
theorem zdc(l:qs)(st:List AObj)(hl:l.ents.length<1000000)(hI:∀e∈l.ents,e.x.fields.length<1000000):qp E 129 [v6 l] st λr st'=>r=q3v (stzF l.ents)∧st'=st:=by
 refine ze [.a (v6 l)] (qyw _) Tryz.func129 rfl rfl (λ_=>rfl) rfl λS0=>?_;apply qd [];repeat' (first|apply Qa|(intro h;try exact cDd)|exact⟨Tryz.call183⟩|(refine jn (zf6 l) ?_)|exact cSd|apply qb []|refine exr ?_|refine qe ?_)
 refine qr5 (X:=List (Int×List Fld)) l 1 2 [0,1] (λout=>⟨[(3,.bx 0 0),(6,.fn (.func 218) [] [.bx 1 0])],[(0,some (.cells 130 [.tp 2])),(1,some (.cells 54 [.a (v6 l)])),(2,some (.tip 2 129 (out.map stzA)))],3⟩) _
  (λr out=>out++stzF r=stzF l.ents∧out.length+r.length<=l.ents.length∧∀y∈r,y∈l.ents) (λ_ _=>False) [] ⟨Sx,Sx,λ_ h=>h⟩ ?_ id hl (λ_=>rfl) rfl (λ_=>rfl) (λ_=>rfl) rfl ?_ ?_ (λ_ _ h=>h.elim)
 .skip
  repeat' (first|apply Qa|(intro h;try exact cDd)|exact cSd|apply qb []|refine exr ?_|refine qe ?_)
 .rintro r e q out ⟨h1,h2,h3⟩ hx
  obtain⟨g1,g2,g3,g4,g5⟩:=qpe hx;rw[g3]at h1;have gr:=λst=>qhs e.x.fields st (hI e (h3 e g2));have o0:(out.map stzA).length=out.length:=Sx
  refine RA.mk λS F ρ rd=>?_;apply qd [];repeat' (first|apply Qa|(intro h;try exact cDd)|(refine RB.mk λS rd=>?_;apply qd [])|exact⟨Tryz.call80⟩|refine cpe gr ?_|(refine Qc (out++[(e.id,e.x.fields)]) ⟨⟨by rw[<-h1];simp,So,λy hy=>h3 y (g5 y hy)⟩,?_⟩)|exact cSd|apply qb []|refine exr ?_|refine qe ?_)
  all_goals first|(simp[SV.evs,SV.ev];done)|(simp[SV.evs];omega)
 .rintro r out hx ⟨h1,h2,h3⟩
  rw[qpd hx,Qv]at h1;rw[<-h1];repeat' (first|apply Qa|(intro h;try exact cDd)|exact cSd|apply qb []|refine exr ?_|refine qe ?_)
theorem zjz(l:qs)(id:Int)(st:List AObj)(hl:l.ents.length<1000000):qp E 130 [v6 l,Iv id] st λr st'=>r=Iv (qf4 l id)∧st'=st:=by
 refine ze [.a (v6 l),.i id] (qr _) Tryz.func130 rfl rfl (λ_=>rfl) rfl λS0=>?_;apply qd [];repeat' (first|apply Qa|(intro h;try exact cDd)|exact⟨Tryz.call183⟩|(refine jn (zf6 l) ?_)|exact cSd|apply qb []|refine exr ?_|refine qe ?_)
 refine qr5 (X:=Int×Nat) l 2 3 [0,1,2] (λ(c,n)=>⟨[(3,.a (.pp [Iv id])),(4,.bx 0 0),(5,.bx 1 0),(8,.fn (.func 218) [] [.bx 2 0])],[(0,some (.cells 3 [.i c])),(1,some (.cells 3 [.i n])),(2,some (.cells 54 [.a (v6 l)]))],3⟩) _
  (λr(c,n)=>c=0∧qep id n (stzF r)=qf4 l id∧n+r.length<=l.ents.length) (λc x=>c=.ret∧x.1=qf4 l id) (0,0) ⟨rfl,rfl,Sx⟩ ?_ (λh=>h) hl (λ_=>rfl) rfl (λ_=>rfl) (λ_=>rfl) rfl ?_ ?_ ?_
 .skip
  repeat' (first|apply Qa|(intro h;try exact cDd)|exact cSd|apply qb []|refine exr ?_|refine qe ?_)
 .rintro r e q ⟨c,n⟩ ⟨rfl,h1,h2⟩ hx
  obtain⟨g1,g2,g3,g4,g5⟩:=qpe hx;rw[g3,qep]at h1;by_cases he:e.id=id
  .rw[if_pos he]at h1
   refine RA.mk λS F ρ rd=>?_;apply qd [];repeat' (first|apply Qa|(intro h;try exact cDd)|(refine RB.mk λS rd=>?_;apply qd [])|(refine Qc ((n:Int),n) ⟨⟨rfl,h1⟩,?_⟩)|exact cSd|apply qb []|refine exr ?_|refine qe ?_)
  .rw[if_neg he]at h1
   refine RA.mk λS F ρ rd=>?_;apply qd [];repeat' (first|apply Qa|(intro h;try exact cDd)|(refine RB.mk λS rd=>?_;apply qd [])|(refine Qc ((0:Int),n+1) ⟨⟨rfl,h1,Om⟩,?_⟩)|exact cSd|apply qb []|refine exr ?_|refine qe ?_)
   all_goals first|(simp[SV.evs,SV.ev];done)|(simp[SV.evs];omega)
 .rintro r ⟨c,n⟩ hx ⟨rfl,h1,h2⟩
  rw[qpd hx,qep]at h1;rw[<-h1];repeat' (first|apply Qa|(intro h;try exact cDd)|exact cSd|apply qb []|refine exr ?_|refine qe ?_)
 .rintro c ⟨c',n⟩ ⟨rfl,h1⟩
  dsimp only at h1;subst h1;repeat' (first|apply Qa|(intro h;try exact cDd)|exact cSd|apply qb []|refine exr ?_|refine qe ?_)
theorem qr3{text:qa}{b:jy}{r:RunV}(hT:xz text b)(hp:jh b.base b.batches=(.no,r)):z8 text=(.no,b,r.l):=by
 unfold z8;rw[zaa hT];simp[hp]
theorem qd4{text:qa}(h:(z8 text).1=.no):∃b r,xz text b∧jh b.base b.batches=(.no,r)∧z8 text=(.no,b,r.l):=by
 by_cases hb:(zx text).1=.no
 .have hT:=qic (text:=text) (b:=(zx text).2) (by rw[<-hb])
  by_cases hp:(jh (zx text).2.base (zx text).2.batches).1=.no
  .have pb:jh (zx text).2.base (zx text).2.batches=(.no,(jh (zx text).2.base (zx text).2.batches).2):=by rw[<-hp]
   exact⟨_,_,hT,pb,qr3 hT pb⟩
  .unfold z8 at h
   rw[if_pos hb,if_neg hp]at h;exact absurd h hp
 .unfold z8 at h
  rw[if_neg hb]at h;exact absurd h hb
theorem qqg:∀(bs:List (List qm))(r r':RunV)(x:List qm),zz bs r=(.no,r')->(doF r'.l x).1=.no->zz (bs++[x]) r=(.no,qaj r' x)
 | [],r,r',x,h,hd=>by
  simp only[zz,Qh,true_and]at h;subst h
  show zz [x] r=_
  unfold zz;rw[if_pos hd]
  try rfl
 |b::q,r,r',x,h,hd=>by
  unfold zz at h
  show zz (b::(q++[x])) r=_
  unfold zz;split at h
  .rename_i hb
   rw[if_pos hb];exact qqg q _ _ _ h hd
  .simp at h
theorem zdo{base:qa}{bs:List (List qm)}{r:RunV}{x:List qm}(h:jh base bs=(.no,r))(hd:(doF r.l x).1=.no):jh base (bs++[x])=(.no,qaj r x):=by
 unfold jh at h⊢;split at h
 .rename_i hp
  rw[if_pos hp];exact qqg _ _ _ _ h hd
 .rename_i hp
  simp only[Qh]at h;exact absurd h.1 hp
end Go.Proofs.YtlekheifonaipaaGreatDoor
namespace Go.Pl
open Go Go.Proofs
theorem qgr(a b:List EntV):stzF (a++b)=stzF a++stzF b:=by simp[stzF]
theorem q74(e:EntV):stzF [e]=if 0<e.id then [(e.id,e.x.fields)]else []:=by
 by_cases h:0<e.id<;>simp[stzF,h]
end Go.Pl
namespace Go.Proofs.YtlekheifonaipaaGreatDoor
open Go Go.Av Go.RowKit Go.Proofs Go.Pl
theorem qn3(l:qs)(st:List AObj)(hl:l.ents.length<1000000):qp E 52 [ku l] st λr st'=>r=q3v (stzF l.ents)∧st'=st:=by
 refine ze [.a (ku l)] (qyw _) Tryz.func52 rfl rfl (λ_=>rfl) rfl λS0=>?_;obtain⟨es,nx,mn⟩:=l;dsimp only at hl⊢;have sb:(es.map entA).length=es.length:=Sx
 apply qd [];repeat' (first|apply Qa|(intro h;try exact cDd)|exact cSd|apply qb []|refine exr ?_|refine qe ?_)
 refine zw (X:=Nat) (λk=>⟨[(1,.a (.pp [qga es,Iv nx])),(3,.tp 0),(4,.i k)],[(0,some (.tip 2 129 ((stzF (es.take k)).map stzA)))],1⟩) (λk=>k<=es.length) (λk=>es.length-k) 0 Om ?_ ?_
 .skip
  repeat' (first|apply Qa|(intro h;try exact cDd)|exact cSd|apply qb []|refine exr ?_|refine qe ?_)
  all_goals first|rfl|(simp[stzF];done)|(simp[stzF];rfl)
 .rintro k hk
  by_cases e9:k<es.length
  .have hx:es[k]?=some es[k]:=Qd e9
   have g9:(es.map entA)[k]?=some (entA es[k]):=by rw[Ql,hx];rfl
   have i7:es.take (k+1)=es.take k++[es[k]]:=by rw[Za,hx];rfl
   have fm:=qpx (es.take k);have hsl2:(es.take k).length<=k:=So
   generalize es[k]=e at hx g9 i7;by_cases h0:0<e.id
   .have e1:stzF (es.take (k+1))=stzF (es.take k)++[(e.id,e.x.fields)]:=by rw[i7,qgr,q74,if_pos h0]
    apply qd [];repeat' (first|apply Qa|(intro h;try exact cDd)|(refine Qc (k) ⟨Om,_,g9,?_⟩)|(refine Qc (k+1) ⟨Om,Om,?_⟩)|exact cSd|apply qb []|refine exr ?_|refine qe ?_)
    all_goals first|(rw[e1];simp;done)|(simp;omega)
   .have e1:stzF (es.take (k+1))=stzF (es.take k):=by rw[i7,qgr,q74,if_neg h0,Qv]
    apply qd [];repeat' (first|apply Qa|(intro h;try exact cDd)|(refine Qc (k) ⟨Om,_,g9,?_⟩)|(refine Qc (k+1) ⟨Om,Om,?_⟩)|exact cSd|apply qb []|refine exr ?_|refine qe ?_)
    all_goals first|(rw[e1];done)|(simp;omega)
  .have e9:k=es.length:=by omega
   subst e9;rw[Zt];apply qd [];repeat' (first|apply Qa|(intro h;try exact cDd)|exact cSd|apply qb []|refine exr ?_|refine qe ?_)
theorem q7o(l:qs)(id:Int)(st:List AObj)(hl:l.ents.length<1000000):qp E 51 [ku l,Iv id] st λr st'=>r=Iv (qf4 l id)∧st'=st:=by
 refine ze [.a (ku l),.i id] (qr _) Tryz.func51 rfl rfl (λ_=>rfl) rfl λS0=>?_;have h1:=λst=>qn3 l st hl;have fm:=qpx l.ents;unfold qf4;generalize stzF l.ents=s at h1 fm;have sb:(s.map stzA).length=s.length:=Sx
 apply qd [];repeat' (first|apply Qa|(intro h;try exact cDd)|exact⟨Tryz.call52⟩|refine cpe h1 ?_|exact cSd|apply qb []|refine exr ?_|refine qe ?_)
 refine zw (X:=Nat) (λk=>⟨[(1,.i id),(5,.a (q3v s)),(6,.i k)],[],0⟩) (λk=>k<=s.length∧qep id k (s.drop k)=qep id 0 s) (λk=>s.length-k) 0 ⟨Om,rfl⟩ ?_ ?_
 .skip
  repeat' (first|apply Qa|(intro h;try exact cDd)|exact cSd|apply qb []|refine exr ?_|refine qe ?_)
  all_goals (simp;done)
 .rintro k ⟨hk,a8⟩
  by_cases e9:k<s.length
  .have hx:s[k]?=some s[k]:=Qd e9
   have g9:(s.map stzA)[k]?=some (stzA s[k]):=by rw[Ql,hx];rfl
   rw[Qj e9,qep]at a8;generalize s[k]=x at hx g9 a8;by_cases hi:x.1=id
   .rw[if_pos hi]at a8
    rw[<-a8];apply qd [];repeat' (first|apply Qa|(intro h;try exact cDd)|(refine Qc (k) ⟨Om,_,g9,?_⟩)|exact cSd|apply qb []|refine exr ?_|refine qe ?_)
   .rw[if_neg hi]at a8
    apply qd [];repeat' (first|apply Qa|(intro h;try exact cDd)|(refine Qc (k) ⟨Om,_,g9,?_⟩)|(refine Qc (k+1) ⟨⟨Om,a8⟩,Om,?_⟩)|exact cSd|apply qb []|refine exr ?_|refine qe ?_)
  .have e9:k=s.length:=by omega
   subst e9;rw[Xr,qep]at a8;rw[<-a8];apply qd [];repeat' (first|apply Qa|(intro h;try exact cDd)|exact cSd|apply qb []|refine exr ?_|refine qe ?_)
theorem qmo(l:qs)(x:qm):l.next<=(oneF l x).2.2.next:=by
 unfold oneF xf delF insF qh4 delL insL;split
 .split
  .exact Zd _
  .split
   .split <;>exact Zd _
   .exact Zd _
 .split
  .split <;>exact Zd _
  .split
   .exact Zd _
   .split
    .split
     .exact Zd _
     .simp only
      omega
    .exact Zd _
end Go.Proofs.YtlekheifonaipaaGreatDoor
namespace Go.Pl
open Go Go.Proofs Go.Proofs.YtlekheifonaipaaGreatDoor
def idsL(es:List EntV):List Int:=(es.filter λe=>decide (0<e.id)).map λe=>e.id
theorem qc5(a b:List EntV):idsL (a++b)=idsL a++idsL b:=by simp[idsL]
theorem qg0(e:EntV)(b:List EntV):idsL (e::b)=if 0<e.id then e.id::idsL b else idsL b:=by
 unfold idsL;by_cases h:0<e.id
 .rw[if_pos h,Zw (by simpa using h)];rfl
 .rw[if_neg h,Zx (by simpa using h)]
theorem qpa{es:List EntV}{n:Int}:n∈idsL es↔0<n∧∃e∈es,e.id=n:=by
 unfold idsL;simp only[Qo,Zl,decide_eq_true_eq];constructor
 .rintro⟨e,⟨he,h⟩,rfl⟩
  exact⟨h,e,he,rfl⟩
 .rintro⟨h,e,he,rfl⟩
  exact⟨e,⟨he,h⟩,rfl⟩
structure GN (l:qs):Prop where
 nd:(idsL l.ents).Nodup
 lt:∀e∈l.ents,e.id<l.next
 nx:1<=l.next
theorem zgh{l:qs}{x:zg}(h:GN l):GN (x5 l x):=by
 obtain⟨h1,h2,h3⟩:=h;unfold x5;split
 .refine⟨?_,λe he=>?_,by simp only;omega⟩
  .simp only
   rw[qc5,qg0,if_pos (by simp only;omega)];refine Zq.2 ⟨h1,by simp[idsL],λa ha b hb=>?_⟩;obtain⟨_,e,he,rfl⟩:=qpa.1 ha;have:=h2 e he;simp[idsL]at hb;omega
  .rcases Qn.1 he with he|he
   .have:=h2 e he;simp only;omega
   .simp only[Qe,Qt,or_false]at he;subst he;simp only;omega
 .refine⟨?_,λe he=>?_,h3⟩
  .simp only
   rw[qc5,qg0,if_neg Sx]
   simpa[idsL]using h1
  .rcases Qn.1 he with he|he
   .exact h2 e he
   .simp only[Qe,Qt,or_false]at he;subst he;simp only;omega
theorem q11:∀(its:List zg)(l:qs),GN l->GN (its.foldl x5 l)
 | [],l,h=>h
 |x::r,l,h=>q11 r (x5 l x) (zgh h)
theorem q6q(its:List zg):GN (ofF its):=q11 its ⟨[],1,0⟩ ⟨by simp[idsL],Sx,Sx⟩
theorem zjl{es:List EntV}{i:Nat}{e:EntV}{x:zg}(h:es[i]?=some e):idsL (es.set i ⟨x,e.id⟩)=idsL es:=by
 obtain⟨d9,rfl⟩:=Qm.1 h;have e1:=Qk i es;rw[Qj d9]at e1;rw[Zh,if_pos d9]
 conv=>rhs;rw[<-e1]
 rw[qc5,qc5,qg0,qg0]
theorem q7t{l:qs}(h:GN l)(id:Int)(fs:List Fld):GN (xf l id fs).2:=by
 unfold xf;split
 .exact h
 .split
  .unfold qh4
   split
   .rename_i e he
    refine⟨by simp only;rw[zjl he];exact h.nd,λy hy=>?_,h.nx⟩;rcases Zr hy with hy|rfl
    .exact h.lt y hy
    .exact h.lt e (Qq he)
   .exact h
  .exact h
theorem zai{l:qs}(h:GN l)(id:Int):GN (delF l id).2:=by
 unfold delF;split
 .exact h
 .generalize(atF l id).toNat=i
  refine⟨?_,λy hy=>?_,h.nx⟩
  .have:=h.nd
   rw[<-Qk i l.ents,qc5]at this;unfold delL;simp only;rw[qc5];refine Ya (Xy (Yb _) ?_) this;unfold idsL;refine Yc _ (Xz _ ?_);rw[<-List.drop_drop];exact List.drop_sublist 1 _
  .rcases Qn.1 hy with hy|hy
   .exact h.lt y (Qx hy)
   .exact h.lt y (Zb hy)
theorem zax{l:qs}(h:GN l)(id:Int)(fs:List Fld):GN (insF l id fs).2.2:=by
 unfold insF;split
 .exact h
 .split
  .split
   .exact h
   .generalize(atF l id+1).toNat=k
    have hn:=h.nx;refine⟨?_,λy hy=>?_,by simp only[insL];omega⟩
    .have:=h.nd
     rw[<-Qk k l.ents,qc5]at this;unfold insL;simp only;rw[qc5,qg0,if_pos (by simp only;omega)];refine(List.perm_middle.nodup_iff).2 (Zz.2 ⟨λhm=>?_,this⟩);rw[<-qc5,Qk]at hm;obtain⟨_,e,he,u0⟩:=qpa.1 hm;have u0:e.id=l.next:=u0;have:=h.lt e he;omega
    .show y.id<l.next+1
     rcases Qn.1 hy with hy|hy
     .have:=h.lt y (Qx hy);omega
     .rcases Qe.1 hy with rfl|hy
      .simp only;omega
      .have:=h.lt y (Zb hy);omega
  .exact h
theorem qfj{l:qs}(h:GN l)(x:qm):GN (oneF l x).2.2:=by
 unfold oneF;split
 .exact q7t h _ _
 .split
  .exact zai h _
  .exact zax h _ _
theorem q07:∀(b:List qm)(k:Nat)(l:qs)(ids:List Int),GN l->GN (kf k b l ids).2.1
 | [],_,l,_,h=>h
 |x::r,k,l,ids,h=>by
  unfold kf;split
  .exact q07 r _ _ _ (qfj h x)
  .exact h
theorem qq4{l:qs}(h:GN l)(b:List qm):GN (doF l b).2.1:=by
 unfold doF;split
 .exact q07 b 0 l [] h
 .exact h
theorem qt2:∀(bs:List (List qm))(r:RunV),GN r.l->GN (zz bs r).2.l
 | [],r,h=>h
 |b::bs,r,h=>by
  unfold zz;split
  .exact qt2 bs _ (qq4 h b)
  .first|exact qq4 h b|exact h
theorem zki(base:qa)(bs:List (List qm)):GN (jh base bs).2.l:=by
 unfold jh;split
 .exact qt2 bs _ (q6q _)
 .exact q6q _
theorem zbt(es:List EntV):(stzF es).map Xs=idsL es:=by
 unfold stzF idsL;rw[Xo];rfl
theorem qcz(e:EntV)(b:List EntV):stzF (e::b)=if 0<e.id then(e.id,e.x.fields)::stzF b else stzF b:=by
 unfold stzF;by_cases h:0<e.id
 .rw[if_pos h,Zw (by simpa using h)];rfl
 .rw[if_neg h,Zx (by simpa using h)]
theorem qjz:∀(es:List EntV)(a b:List (Int×List Fld))(x:Int×List Fld),stzF es=a++x::b->∃A e B,es=A++e::B∧stzF A=a∧stzF B=b∧0<e.id∧x=(e.id,e.x.fields)
 | [],a,b,x,h=>by
  have:stzF []=[]:=rfl;rw[this]at h
  cases a<;>simp at h
 |e::r,a,b,x,h=>by
  rw[qcz]at h;by_cases he:0<e.id
  .rw[if_pos he]at h
   cases a with
   |nil=>
    simp only[Xa,Xu]at h
    exact⟨[],e,r,rfl,rfl,h.2,he,h.1.symm⟩
   |cons y a=>
    simp only[Zc,Xu]at h;obtain⟨A,e',B,rfl,h1,h2,h3,h4⟩:=qjz r a b x h.2;exact⟨e::A,e',B,rfl,by rw[qcz,if_pos he,h1,h.1],h2,h3,h4⟩
  .rw[if_neg he]at h
   obtain⟨A,e',B,rfl,h1,h2,h3,h4⟩:=qjz r a b x h;exact⟨e::A,e',B,rfl,by rw[qcz,if_neg he,h1],h2,h3,h4⟩
theorem zav{id:Int}{e:EntV}{B:List EntV}(he:e.id=id):∀(A:List EntV)(k:Nat),(∀y∈A,y.id≠id)->xb id k (A++e::B)=((k+A.length:Nat):Int)
 | [],k,_=>by
  rw[Xa,xb,if_pos he]
  rfl
 |y::A,k,h=>by
  rw[Zc,xb,if_neg (h y Sx),zav he A (k+1) λz hz=>h z (by simp[hz])];simp only[Qf];omega
theorem qun{l:qs}{A B:List EntV}{e:EntV}(h:GN l)(hs:l.ents=A++e::B)(he:0<e.id):atF l e.id=(A.length:Int):=by
 unfold atF;rw[if_neg Om,hs,zav rfl A 0 λy hy hh=>?_]
 .simp
 .have dq:=h.nd
  rw[hs,qc5,qg0,if_pos he]at dq;have hm:y.id∈idsL A:=qpa.2 ⟨Om,y,hy,rfl⟩;exact(Zq.1 dq).2.2 _ hm _ Sx hh
theorem q7u{l:qs}{a b:List (Int×List Fld)}{id:Int}{f fs:List Fld}(h:GN l)(hs:stzF l.ents=a++(id,f)::b)(hc:z0 fs=.no):(xf l id fs).1=.no∧stzF (xf l id fs).2.ents=a++(id,fs)::b∧(xf l id fs).2.next=l.next:=by
 obtain⟨A,e,B,h1,h2,h3,h4,h5⟩:=qjz _ _ _ _ hs;simp only[Qh]at h5;obtain⟨rfl,rfl⟩:=h5;unfold xf;rw[qun h h1 h4,if_neg Om,if_pos hc,Qz];unfold qh4;have hg:l.ents[A.length]?=some e:=by rw[h1];simp
 rw[hg];refine⟨rfl,?_,rfl⟩;simp only;rw[h1,List.set_append_right _ _ (Qu _),Nat.sub_self,List.set_cons_zero,qgr,qcz,if_pos h4,h2,h3];unfold yt;rw[if_pos hc]
theorem zaj{l:qs}{a b:List (Int×List Fld)}{id:Int}{f:List Fld}(h:GN l)(hs:stzF l.ents=a++(id,f)::b):(delF l id).1=.no∧stzF (delF l id).2.ents=a++b∧(delF l id).2.next=l.next:=by
 obtain⟨A,e,B,h1,h2,h3,h4,h5⟩:=qjz _ _ _ _ hs;simp only[Qh]at h5;obtain⟨rfl,rfl⟩:=h5;unfold delF;rw[qun h h1 h4,if_neg Om,Qz];refine⟨rfl,?_,rfl⟩;unfold delL;simp only;rw[h1,Xg,show(A++e::B).drop (A.length+1)=B by simp,qgr,h2,h3]
theorem zay{l:qs}{a b:List (Int×List Fld)}{bh:Int}{fs:List Fld}(h:GN l)(hs:stzF l.ents=a++b)(hb:bh=(a.getLast?.map Xs).getD 0)(hc:z0 fs=.no):
  (400<=l.many∧(insF l bh fs).2.1=.num 11)∨((insF l bh fs).2.1=.no∧stzF (insF l bh fs).2.2.ents=a++(l.next,fs)::b∧(insF l bh fs).2.2.next=l.next+1∧(insF l bh fs).1=l.next):=by
 have hn:=h.nx
 have fin:∀A B:List EntV,l.ents=A++B->stzF A=a->stzF B=b->atF l bh+1=(A.length:Int)->(¬(atF l bh<0∧bh≠0))->
   (400<=l.many∧(insF l bh fs).2.1=.num 11)∨((insF l bh fs).2.1=.no∧stzF (insF l bh fs).2.2.ents=a++(l.next,fs)::b∧(insF l bh fs).2.2.next=l.next+1∧(insF l bh fs).1=l.next):=λA B h1 h2 h3 h4 h5=>by
  unfold insF;rw[if_neg h5,if_pos hc];by_cases hm:400<=l.many
  .rw[if_pos hm]
   exact .inl ⟨hm,rfl⟩
  .rw[if_neg hm,h4,Qz]
   refine .inr ⟨rfl,?_,rfl,rfl⟩;unfold insL;simp only;rw[h1,Xg,List.drop_left,qgr,qcz,if_pos (by simp only;omega),h2,h3];unfold yt;rw[if_pos hc]
 rcases Zj a with rfl |⟨a',x,rfl⟩
 .have h0:bh=0:=by simpa using hb
  subst h0;refine fin [] l.ents rfl rfl (by simpa using hs) ?_ Sx;unfold atF;rw[if_pos Om];rfl
 .have hx:bh=x.1:=by simpa using hb
  subst hx;rw[Zk,List.append_assoc]at hs;obtain⟨A,e,B,h1,h2,h3,h4,h5⟩:=qjz _ _ _ _ hs;subst h5;have ha:=qun h h1 h4;refine fin (A++[e]) B (by rw[h1];simp) ?_ h3 (by rw[ha];simp) (by rw[ha];omega);rw[qgr,qcz,if_pos h4,h2];simp[stzF]
def qhy(done:List (Int×List Fld)):Int:=(done.getLast?.map Xs).getD 0
theorem qm8(done:List (Int×List Fld))(x:Int×List Fld):qhy (done++[x])=x.1:=by simp[qhy]
theorem zcn{fs:List Fld}(h:GF fs)(b9:fs≠[]):z0 fs=.no:=by
 unfold z0;rw[if_neg b9,if_neg (by have:=h.1;omega)];have:=qth 0 fs [] λx hx=>(qc3 x).2 (h.2 x hx);rw[Qv]at this;rw[this];rfl
theorem q89{x:zg}(h:qa9 x)(hk:x.kind=3):z0 x.fields=.no:=by
 have hp:=q62 (its:=[x]) (by simpa using h) (by simp[cntI,hk]);have ha:qb6 [x]=[x]:=by simp[qb6,vo]
 have hm:=qnc (wm (qb6 [x])) x (by rw[hp,ha];simp);exact zcn hm.1 (hm.2.1 hk)
theorem qmv{l:qs}(h:GL l):∀r∈(stzF l.ents).map Zg,z0 r=.no:=λr hr=>by
 unfold stzF at hr;simp only[Xo,Qo,Zl,decide_eq_true_eq]at hr;obtain⟨e,⟨he,h0⟩,rfl⟩:=hr;exact q89 (h.ok e he).1 ((h.ok e he).2.1 h0)
theorem qw9:∀(b:List qm)(k:Nat),(∀x∈b,gErr x=.no)->qa3 k b=.no
 | [],_,_=>rfl
 |x::r,k,h=>by
  rw[qa3,if_pos (by rw[h x Sx];rfl),qw9 r (k+1) λy hy=>h y (by simp[hy])]
end Go.Pl
namespace Go.Pl
open Go Go.Proofs Go.Av Go.Proofs.YtlekheifonaipaaGreatDoor
theorem qmp{l:qs}{x:qm}(h:GN l)(ho:(oneF l x).2.1=.no):
  (x.kind=1∧(oneF l x).1=0∧∃a b f,stzF l.ents=a++(x.id,f)::b∧stzF (oneF l x).2.2.ents=a++(x.id,x.fields)::b)∨
  (x.kind=2∧(oneF l x).1=0∧∃a b f,stzF l.ents=a++(x.id,f)::b∧stzF (oneF l x).2.2.ents=a++b)∨
  (x.kind≠1∧x.kind≠2∧(oneF l x).1=l.next∧∃a b,stzF l.ents=a++b∧stzF (oneF l x).2.2.ents=a++(l.next,x.fields)::b):=by
 have found:∀id:Int,¬atF l id<0->∃a b f,stzF l.ents=a++(id,f)::b:=λid ha=>by
  rcases qfw l id with g|⟨i,e,g1,g2,g3,g4⟩
  .omega
  .obtain⟨d9,he⟩:=Qm.1 g2
   refine⟨stzF (l.ents.take i),stzF (l.ents.drop (i+1)),e.x.fields,?_⟩;have e1:=Qk i l.ents;rw[Qj d9,he]at e1
   conv=>lhs;rw[<-e1]
   rw[qgr,qcz,if_pos Om,g3]
 have hn:=h.nx;unfold oneF at ho⊢;by_cases h1:x.kind=1
 .rw[if_pos h1]at ho⊢
  have ha:¬atF l x.id<0:=λha=>by unfold xf at ho;rw[if_pos ha]at ho;simp at ho
  have hc:z0 x.fields=.no:=Classical.byContradiction λhc=>by
   unfold xf at ho;rw[if_neg ha,if_neg hc]at ho;exact hc ho
  obtain⟨a,b,f,hs⟩:=found x.id ha;exact .inl ⟨h1,rfl,a,b,f,hs,(q7u h hs hc).2.1⟩
 .rw[if_neg h1]at ho⊢
  by_cases h2:x.kind=2
  .rw[if_pos h2]at ho⊢
   have ha:¬atF l x.id<0:=λha=>by unfold delF at ho;rw[if_pos ha]at ho;simp at ho
   obtain⟨a,b,f,hs⟩:=found x.id ha;exact .inr (.inl ⟨h2,rfl,a,b,f,hs,(zaj h hs).2.1⟩)
  .rw[if_neg h2]at ho⊢
   have ha:¬(atF l x.id<0∧x.id≠0):=λha=>by unfold insF at ho;rw[if_pos ha]at ho;simp at ho
   have hc:z0 x.fields=.no:=Classical.byContradiction λhc=>by
    unfold insF at ho;rw[if_neg ha,if_neg hc]at ho;exact hc ho
   have hab:∃a b,stzF l.ents=a++b∧x.id=qhy a:=by
    by_cases h0:x.id=0
    .exact⟨[],stzF l.ents,rfl,h0⟩
    .obtain⟨a,b,f,hs⟩:=found x.id λhh=>ha ⟨hh,h0⟩
     exact⟨a++[(x.id,f)],b,by rw[hs];simp,by rw[qm8]⟩
   obtain⟨a,b,hs,hb⟩:=hab;rcases zay (fs:=x.fields) h hs hb hc with⟨_,g⟩|⟨g1,g2,g3,g4⟩
   .rw[g]at ho;simp at ho
   .exact .inr (.inr ⟨h1,h2,g4,a,b,hs,g2⟩)
def qau(l:qs)(id:Int):List Fld:=((stzF l.ents).find? λs=>decide (s.1=id)).map Zg |>.getD []
def yo(id:Int):Int->List (Int×List Fld)->Int
 |_,[]=>0
 |p,s::r=>if s.1=id then p else yo id s.1 r
def qbp(l:qs)(id:Int):Int:=yo id 0 (stzF l.ents)
structure qit where
 kind:Int
 id:Int
 was:List Fld
 ahead:Int
def yi(l:qs)(x:qm):qit:=⟨x.kind,if 0<(oneF l x).1 then(oneF l x).1 else x.id,qau l x.id,qbp l x.id⟩
def w9:List qm->qs->List qit
 | [],_=>[]
 |x::r,l=>yi l x::w9 r (oneF l x).2.2
def wd(L:List (Int×Int))(id:Int):Int:=if(L.any λq=>decide (q.1=id))=true then getM id L else id
def x8:List qit->List (Int×Int)->Int->List qm
 | [],_,_=>[]
 |s::r,L,nx=>if s.kind=1 then⟨1,wd L s.id,s.was⟩::x8 r L nx else if s.kind=2 then⟨3,wd L s.ahead,s.was⟩::x8 r (setM s.id nx L) (nx+1)else⟨2,wd L s.id,[]⟩::x8 r L nx
theorem q4b(s t n:Int):∀(L:List (Int×Int)),((setM s n L).any λq=>decide (q.1=t))=(decide (s=t)||L.any λq=>decide (q.1=t))
 | []=>by simp[setM]
 |q::r=>by
  unfold setM;by_cases h:q.1=s
  .rw[if_pos h]
   simp only[Zo,h]
   cases decide (s=t)<;>simp
  .rw[if_neg h]
   simp only[Zo,q4b s t n r]
   cases decide (q.1=t)<;>cases decide (s=t)<;>simp
theorem qju(L:List (Int×Int))(s t n:Int):wd (setM s n L) t=if t=s then n else wd L t:=by
 unfold wd;rw[q4b,q5v];by_cases h:t=s
 .subst h
  simp
 .rw[if_neg h]
  have:decide (s=t)=false:=decide_eq_false λe=>h e.symm;rw[this,Xk,if_neg h]
def renS(L:List (Int×Int))(S:List (Int×List Fld)):List (Int×List Fld):=S.map λs=>(wd L s.1,s.2)
theorem zku(L:List (Int×Int))(S:List (Int×List Fld)):(renS L S).map Zg=S.map Zg:=by
 unfold renS;rw[Xo];rfl
theorem qgo(L:List (Int×Int))(a b:List (Int×List Fld)):renS L (a++b)=renS L a++renS L b:=by simp[renS]
theorem zkv{L:List (Int×Int)}(h0:wd L 0=0)(a:List (Int×List Fld)):wd L (qhy a)=qhy (renS L a):=by
 rcases Zj a with rfl |⟨a',x,rfl⟩
 .exact h0
 .rw[Zk,qm8,qgo]
  exact(qm8 (renS L a') (wd L x.1,x.2)).symm
theorem qi6{l:qs}{a b:List (Int×List Fld)}{id:Int}{f:List Fld}(hs:stzF l.ents=a++(id,f)::b)(hd:∀s∈a,s.1≠id):qau l id=f:=by
 unfold qau;rw[hs,List.find?_append,Xp.2 (by simpa using hd)];simp
theorem qs8{id:Int}{f:List Fld}{b:List (Int×List Fld)}:∀(a:List (Int×List Fld))(p:Int),(∀s∈a,s.1≠id)->yo id p (a++(id,f)::b)=(a.getLast?.map Xs).getD p
 | [],p,_=>by simp[yo]
 |s::a,p,h=>by
  rw[Zc,yo,if_neg (h s Sx),qs8 a s.1 λy hy=>h y (by simp[hy])]
  cases a with
  |nil=>rfl
  |cons y r=>
   rw[List.getLast?_cons_cons]
   cases hq:(y::r).getLast? with
   |none=>simp at hq
   |some z=>rfl
theorem qjt{l:qs}{a b:List (Int×List Fld)}{id:Int}{f:List Fld}(h:GN l)(hs:stzF l.ents=a++(id,f)::b):0<id∧(∀s∈a,s.1≠id)∧∀s∈b,s.1≠id:=by
 have dq:=h.nd;rw[<-zbt,hs,List.map_append,Zp]at dq;obtain⟨_,h2,h3⟩:=Zq.1 dq;obtain⟨h4,_⟩:=Zz.1 h2;have hm:id∈idsL l.ents:=by rw[<-zbt,hs];simp
 refine⟨(qpa.1 hm).1,λs hs hh=>h3 s.1 (Qo.2 ⟨s,hs,rfl⟩) id Sx hh,λs hs hh=>h4 ?_⟩;exact Qo.2 ⟨s,hs,hh⟩
def je(b:List qm)(l:qs):qs:=b.foldl (λl x=>(oneF l x).2.2) l
def qeq:List qm->qs->Prop
 | [],_=>True
 |x::r,l=>(oneF l x).2.1=.no∧qeq r (oneF l x).2.2
theorem qvv:∀(b:List qm)(k:Nat)(l:qs)(ids:List Int),(kf k b l ids).1=.no->qeq b l∧(kf k b l ids).2.1=je b l
 | [],_,_,_,_=>⟨trivial,rfl⟩
 |x::r,k,l,ids,h=>by
  rw[kf]at h⊢;by_cases ho:(oneF l x).2.1=.no
  .rw[if_pos ho]at h⊢
   obtain⟨h1,h2⟩:=qvv r _ _ _ h;exact⟨⟨ho,h1⟩,h2⟩
  .rw[if_neg ho]at h
   simp at h
theorem qyx:∀(b:List qm)(x:qm)(l:qs),qeq (b++[x]) l->qeq b l∧(oneF (je b l) x).2.1=.no
 | [],x,l,h=>⟨trivial,h.1⟩
 |y::b,x,l,h=>by
  obtain⟨h1,h2⟩:=qyx b x (oneF l y).2.2 h.2;exact⟨⟨h.1,h1⟩,h2⟩
theorem qyu:∀(b:List qm)(x:qm)(l:qs),w9 (b++[x]) l=w9 b l++[yi (je b l) x]
 | [],x,l=>rfl
 |y::b,x,l=>by
  rw[Zc,w9,qyu b x];rfl
theorem qv8(b:List qm)(x:qm)(l:qs):je (b++[x]) l=(oneF (je b l) x).2.2:=by simp[je]
theorem qoc:∀(b:List qm)(l:qs),GN l->GN (je b l)
 | [],_,h=>h
 |x::r,l,h=>qoc r _ (qfj h x)
theorem q34:∀(b:List qm)(l:qs),GL l->GL (je b l)
 | [],_,h=>h
 |x::r,l,h=>q34 r _ (qzt h x)
theorem zad{l:qs}(h:GL l):cntI (jw l)=(stzF l.ents).length:=by
 have key:∀es:List EntV,(∀e∈es,0<e.id↔e.x.kind=3)->cntI (es.map λe=>e.x)=(stzF es).length:=by
  intro es
  induction es with
  |nil=>intro _;rfl
  |cons e r ih=>
   intro he;have h1:=he e Sx;rw[Zp,yb,ih λx hx=>he x (by simp[hx]),qcz];by_cases hk:e.x.kind=3
   .rw[if_pos hk,if_pos (h1.2 hk),Qf];omega
   .rw[if_neg hk,if_neg (λq=>hk (h1.1 q))];omega
 exact key l.ents λe he=>(h.ok e he).2
theorem zl4(l:qs)(hg:GN l)(hl:GL l):∀(n:Nat)(b:List qm),b.length=n->qeq b l->∀(M:qs)(L:List (Int×Int))(k:Nat)(ids:List Int),GN M->GL M->stzF M.ents=renS L (stzF (je b l).ents)->wd L 0=0->
  (kf k (x8 (w9 b l).reverse L M.next) M ids).1=.no∧(stzF (kf k (x8 (w9 b l).reverse L M.next) M ids).2.1.ents).map Zg=(stzF l.ents).map Zg:=by
 intro n
 induction n with
 |zero=>
  intro b hb ht M L k ids hM hG hs h0;have:b=[]:=List.length_eq_zero_iff.1 hb;subst this;refine⟨rfl,?_⟩
  show(stzF M.ents).map Zg=_
  rw[hs,zku]
  rfl
 |succ n ih=>
  intro b hb ht M L k ids hM hG hs h0
  obtain⟨b',x,rfl⟩:∃b' x,b=b'++[x]:=by
   rcases Zj b with rfl |⟨b',x,rfl⟩
   .simp at hb
   .exact⟨b',x,Zk⟩
  obtain⟨tz,ht2⟩:=qyx b' x l ht;have hP:=qoc b' l hg;have hQ:=q34 b' l hl;have gb:b'.length=n:=by simpa using hb
  rw[qv8]at hs;rw[qyu,Xl,Xc,Xh];generalize hPe:je b' l=P at *;rcases qmp hP ht2 with⟨hk,hi,a,c,f,e1,e2⟩|⟨hk,hi,a,c,f,e1,e2⟩|⟨bn,s8,hi,a,c,e1,e2⟩
  .obtain⟨cq,ha,hc⟩:=qjt hP e1
   have e7:yi P x=⟨1,x.id,f,qbp P x.id⟩:=by
    unfold yi;rw[hi,if_neg Om,qi6 e1 ha,hk]
   rw[e7,x8,if_pos rfl,kf];rw[e2,qgo]at hs;have hf:z0 f=.no:=qmv hQ f (by rw[e1];simp);obtain⟨g1,g2,g3⟩:=q7u (fs:=f) hM hs hf;have ho:oneF M ⟨1,wd L x.id,f⟩=(0,xf M (wd L x.id) f):=by simp[oneF]
   rw[ho];simp only;rw[if_pos g1,<-g3];refine ih b' gb tz _ L _ _ (q7t hM _ _) (q7s hG _ _) ?_ h0;rw[g2,hPe,e1,qgo];rfl
  .obtain⟨cq,ha,hc⟩:=qjt hP e1
   have hah:qbp P x.id=qhy a:=by
    unfold qbp;rw[e1,qs8 a 0 ha];rfl
   have e7:yi P x=⟨2,x.id,f,qhy a⟩:=by
    unfold yi;rw[hi,if_neg Om,qi6 e1 ha,hk,hah]
   rw[e7,x8,if_neg Sx,if_pos rfl,kf];rw[e2,qgo]at hs;have hf:z0 f=.no:=qmv hQ f (by rw[e1];simp);have ho:oneF M ⟨3,wd L (qhy a),f⟩=insF M (wd L (qhy a)) f:=by simp[oneF]
   simp only;rw[ho];rcases zay (fs:=f) hM hs (zkv h0 a) hf with⟨g,_⟩|⟨g1,g2,g3,g4⟩
   .have q1:=hQ.le
    have q2:=hG.mn;rw[zad hQ,e1]at q1;rw[zad hG,hs]at q2;simp[renS]at q1 q2;omega
   .rw[g1,if_pos rfl,<-g3]
    have hren:∀S:List (Int×List Fld),(∀s∈S,s.1≠x.id)->renS (setM x.id M.next L) S=renS L S:=λS hS=>by
     unfold renS;refine List.map_congr_left λs hs=>?_;rw[qju,if_neg (hS s hs)]
    refine ih b' gb tz _ (setM x.id M.next L) _ _ (zax hM _ _) (zaw hG _ _) ?_ (by rw[qju,if_neg Om];exact h0);rw[g2,hPe,e1,qgo,hren a ha]
    show _=_++(wd (setM x.id M.next L) x.id,f)::renS (setM x.id M.next L) c
    rw[hren c hc,qju,if_pos rfl]
  .have hgP:=qfj hP x
   obtain⟨cq,ha,hc⟩:=qjt hgP e2
   have e7:yi P x=⟨x.kind,P.next,qau P x.id,qbp P x.id⟩:=by
    unfold yi;rw[hi,if_pos cq]
   rw[e7,x8,if_neg bn,if_neg s8,kf];rw[e2,qgo]at hs;obtain⟨g1,g2,g3⟩:=zaj hM hs;have ho:oneF M ⟨2,wd L P.next,[]⟩=(0,delF M (wd L P.next)):=by simp[oneF]
   simp only;rw[ho];simp only;rw[if_pos g1,<-g3];refine ih b' gb tz _ L _ _ (zai hM _) (zah hG _) ?_ h0;rw[g2,hPe,e1,qgo];rfl
theorem q0v:∀(ss:List qit)(L:List (Int×Int))(nx:Int),(∀s∈ss,s.kind=1∨s.kind=2->z0 s.was=.no)->∀x∈x8 ss L nx,gErr x=.no
 | [],_,_,_,x,hx=>by simp[x8]at hx
 |s::r,L,nx,h,x,hx=>by
  have hr:=λL nx=>q0v r L nx λy hy=>h y (by simp[hy]);have hs:=h s Sx;rw[x8]at hx;split at hx
  .rename_i h1
   rcases Qe.1 hx with rfl|hx
   .simpa[gErr]using hs (.inl h1)
   .exact hr _ _ x hx
  .split at hx
   .rename_i h2
    rcases Qe.1 hx with rfl|hx
    .simpa[gErr]using hs (.inr h2)
    .exact hr _ _ x hx
   .rcases Qe.1 hx with rfl|hx
    .simp[gErr]
    .exact hr _ _ x hx
theorem qol:∀(ss:List qit)(L:List (Int×Int))(nx:Int),(x8 ss L nx).length=ss.length
 | [],_,_=>rfl
 |s::r,L,nx=>by
  rw[x8];split
  .simp[qol r]
  .split <;>simp[qol r]
theorem qhe:∀(b:List qm)(l:qs),(w9 b l).length=b.length
 | [],_=>rfl
 |x::r,l=>by simp[w9,qhe r]
theorem qsa:∀(b:List qm)(l:qs),GN l->GL l->qeq b l->∀s∈w9 b l,s.kind=1∨s.kind=2->z0 s.was=.no
 | [],_,_,_,_,s,hs,_=>by simp[w9]at hs
 |x::r,l,hn,hl,ht,s,hs,hk=>by
  rw[w9]at hs;rcases Qe.1 hs with rfl|hs
  .have hk:x.kind=1∨x.kind=2:=hk
   show z0 (qau l x.id)=.no
   rcases qmp hn ht.1 with⟨_,_,a,c,f,e1,_⟩|⟨_,_,a,c,f,e1,_⟩|⟨h1,h2,_⟩
   .rw[qi6 e1 (qjt hn e1).2.1]
    exact qmv hl f (by rw[e1];simp)
   .rw[qi6 e1 (qjt hn e1).2.1]
    exact qmv hl f (by rw[e1];simp)
   .omega
  .exact qsa r _ (qfj hn x) (qzt hl x) ht.2 s hs hk
def qae(l:qs)(b:List qm):List qm:=x8 (w9 b l).reverse [] (doF l b).2.1.next
theorem zn1{l:qs}{b:List qm}(hn:GN l)(hl:GL l)(h:(doF l b).1=.no):
  eErr (qae l b)=.no∧(doF (doF l b).2.1 (qae l b)).1=.no∧(stzF (doF (doF l b).2.1 (qae l b)).2.1.ents).map Zg=(stzF l.ents).map Zg:=by
 have he:eErr b=.no:=Classical.byContradiction λhe=>by
  unfold doF at h;rw[if_neg he]at h;exact he h
 have hd:doF l b=kf 0 b l []:=by unfold doF;rw[if_pos he]
 rw[hd]at h;obtain⟨ht,ha⟩:=qvv b 0 l [] h
 have d5:¬(b.length<1∨40<b.length):=λhh=>by
  unfold eErr at he;rw[if_pos hh]at he;simp at he
 have hb:eErr (qae l b)=.no:=by
  unfold eErr
  have pm:(qae l b).length=b.length:=by
   unfold qae;rw[qol,Xm,qhe]
  rw[pm,if_neg d5];refine qw9 _ 0 (q0v _ _ _ λs hs=>qsa b l hn hl ht s (by simpa using hs))
 have:=zl4 l hn hl b.length b rfl ht (doF l b).2.1 [] 0 [] (qq4 hn b) (q46 hl b) (by rw[hd,ha];simp[renS,wd]) (by simp[wd])
 have e:doF (doF l b).2.1 (qae l b)=kf 0 (qae l b) (doF l b).2.1 []:=by
  show(if eErr (qae l b)=.no then kf 0 (qae l b) (doF l b).2.1 []else _)=_
  rw[if_pos hb]
 rw[e];exact⟨hb,this⟩
end Go.Pl
namespace Go.Pl
open Go Go.Proofs Go.Proofs.YtlekheifonaipaaGreatDoor
def wb(b:jy)(n:Nat):qa:=wa b.gen++(b.base++vf (b.batches.take n))
def qel(b:jy):List Int:=((wa b.gen).length+b.base.length:Nat)::b.ends
theorem zg0(x y:List (List qm)):vf (x++y)=vf x++vf y:=by simp[vf]
theorem qwr{text:qa}{b:jy}(h:xz text b)(n:Nat):text=wb b n++(vf (b.batches.drop n)++b.tail):=by
 have e:=congrArg vf (Qk n b.batches);rw[zg0]at e;unfold wb;rw[h.txt]
 conv=>lhs;rw[<-e]
 simp
theorem qi0{text:qa}{b:jy}(h:xz text b)(n:Nat):text.take (wb b n).length=wb b n:=by
 have:=qwr h n
 conv=>lhs;rw[this]
 exact Xg
theorem q5f:∀(bs:List (List qm))(a:Int)(n:Nat),n<=bs.length->(a::qat a bs)[n]?=some (a+(vf (bs.take n)).length)
 |bs,a,0,_=>by simp[vf]
 | [],a,n+1,h=>by simp at h
 |x::r,a,n+1,h=>by
  rw[Qg,qat,q5f r _ n (by simpa using h),List.take_succ_cons,qa8];simp;omega
theorem qj2{text:qa}{b:jy}(h:xz text b){n:Nat}(hn:n<=b.batches.length):(qel b)[n]?=some ((wb b n).length:Int):=by
 unfold qel;rw[h.ends];have:=q5f b.batches (((wa b.gen).length+b.base.length:Nat):Int) n hn;rw[show(((wa b.gen).length+b.base.length:Nat):Int)=((wa b.gen).length:Int)+(b.base.length:Int)by omega]at this⊢;rw[this];unfold wb;simp;omega
theorem qgc(x:List qm)(q:List (List qm))(r:RunV):zz (x::q) r=if(doF r.l x).1=.no then zz q (qaj r x)else(.at' r.given.length 10,r):=by rw[zz]
theorem qry:∀(a b:List (List qm))(r r':RunV),zz (a++b) r=(.no,r')->∃r1,zz a r=(.no,r1)∧zz b r1=(.no,r')
 | [],b,r,r',h=>⟨r,rfl,h⟩
 |x::a,b,r,r',h=>by
  rw[Zc,qgc]at h;rw[qgc];split at h
  .rename_i hx
   obtain⟨r1,h1,h2⟩:=qry a b _ r' h;exact⟨r1,by rw[if_pos hx];exact h1,h2⟩
  .simp at h
theorem zgu{base:qa}{a b:List (List qm)}{r:RunV}(h:jh base (a++b)=(.no,r)):∃r1,jh base a=(.no,r1)∧zz b r1=(.no,r):=by
 unfold jh at h⊢;split at h
 .rename_i hp
  rw[if_pos hp];exact qry a b _ _ h
 .rename_i hp
  simp only[Qh]at h;exact absurd h.1 hp
theorem qnd{base:qa}{a:List (List qm)}{r:RunV}(h:jh base a=(.no,r)):jx base=.no:=by
 unfold jh at h;split at h
 .assumption
 .rename_i hp
  simp only[Qh]at h;exact absurd h.1 hp
theorem q68{x:List qm}{r r':RunV}(h:zz [x] r=(.no,r')):(doF r.l x).1=.no∧r'=qaj r x:=by
 rw[qgc]at h;split at h
 .rename_i hx
  simp only[zz,Qh,true_and]at h;exact⟨hx,h.symm⟩
 .simp at h
def runI(a:Int)(n:Nat):List Int:=(Xx n).map λi:Nat=>a+(i:Int)
theorem zhe(a:Int)(n:Nat):runI a (n+1)=runI a n++[a+(n:Int)]:=by simp[runI,List.range_succ]
theorem qmo{l:qs}{x:qm}(hn:GN l)(h:(oneF l x).2.1=.no):((oneF l x).1=0∧(oneF l x).2.2.next=l.next)∨((oneF l x).1=l.next∧(oneF l x).2.2.next=l.next+1):=by
 unfold oneF at h⊢;split
 .left
  unfold xf qh4;split
  .exact⟨rfl,rfl⟩
  .split
   .split <;>exact⟨rfl,rfl⟩
   .exact⟨rfl,rfl⟩
 .rename_i h1
  rw[if_neg h1]at h;split
  .left
   unfold delF delL;split <;>exact⟨rfl,rfl⟩
  .rename_i h2
   rw[if_neg h2]at h;unfold insF at h⊢;split
   .rename_i h3
    rw[if_pos h3]at h;simp at h
   .rename_i h3
    rw[if_neg h3]at h;split
    .rename_i h4
     rw[if_pos h4]at h;split
     .rename_i h5
      rw[if_pos h5]at h;simp at h
     .exact .inr ⟨rfl,rfl⟩
    .rename_i h4
     rw[if_neg h4]at h;exact absurd h h4
theorem qom:∀(b:List qm)(k:Nat)(l:qs)(a:Int)(n:Nat),GN l->a+(n:Int)=l.next->(kf k b l (runI a n)).1=.no->∃m,(kf k b l (runI a n)).2.2=runI a m
 | [],k,l,a,n,hg,hn,h=>⟨n,rfl⟩
 |x::r,k,l,a,n,hg,hn,h=>by
  unfold kf at h⊢;by_cases ho:(oneF l x).2.1=.no
  .rw[if_pos ho]at h⊢
   have hx:=hg.nx;rcases qmo hg ho with⟨e1,e2⟩|⟨e1,e2⟩
   .rw[if_neg Om]at h⊢
    exact qom r _ _ a n (qfj hg x) Om h
   .rw[if_pos Om,e1,<-hn,<-zhe]at h⊢
    exact qom r _ _ a (n+1) (qfj hg x) Om h
  .rw[if_neg ho]at h
   simp at h
theorem zmm{l:qs}{b:List qm}(hg:GN l)(h:(doF l b).1=.no):∃m,(doF l b).2.2=runI l.next m:=by
 unfold doF at h⊢;by_cases he:eErr b=.no
 .rw[if_pos he]at h⊢
  exact qom b 0 l l.next 0 hg Sx h
 .rw[if_neg he]at h
  exact absurd h he
theorem qmr:∀(bs:List (List qm))(r r':RunV),GN r.l->zz bs r=(.no,r')->∃gs,r'.given=r.given++gs∧gs.length=bs.length∧∀g∈gs,∃a m,g=runI a m
 | [],r,r',hg,h=>by
  simp only[zz,Qh,true_and]at h;subst h
  exact⟨[],Sx,rfl,Sx⟩
 |x::q,r,r',hg,h=>by
  rw[qgc]at h;split at h
  .rename_i hx
   obtain⟨gs,h1,h2,h3⟩:=qmr q _ r' (qq4 hg x) h;obtain⟨m,hm⟩:=zmm hg hx;refine⟨(doF r.l x).2.2::gs,?_,by simp[h2],λg hh=>?_⟩
   .rw[h1]
    simp[qaj]
   .rcases Qe.1 hh with rfl|hh
    .exact⟨_,_,hm⟩
    .exact h3 g hh
  .simp at h
theorem q67{base:qa}{bs:List (List qm)}{r:RunV}(h:jh base bs=(.no,r)):r.given.length=bs.length∧∀g∈r.given,∃a m,g=runI a m:=by
 have hp:=qnd h;unfold jh at h;rw[if_pos hp]at h;obtain⟨gs,h1,h2,h3⟩:=qmr bs _ r (q6q _) h;simp only[Xa]at h1;rw[h1];exact⟨h2,h3⟩
theorem qok(C:Int):∀(ss:List qit)(L:List (Int×Int))(nx:Int),(∀s∈ss,0<=s.id∧s.id<=C∧0<=s.ahead∧s.ahead<=C)->(∀t,0<=t->t<=C->0<=wd L t∧wd L t<=C)->0<=nx->nx+(ss.length:Int)<=C->∀x∈x8 ss L nx,0<=x.id∧x.id<=C
 | [],L,nx,_,_,_,_,x,hx=>by simp[x8]at hx
 |s::r,L,nx,hs,hL,h0,hC,x,hx=>by
  obtain⟨a1,a2,a3,a4⟩:=hs s Sx;have hr:=λy hy=>hs y (Zm _ hy);simp only[Qf]at hC;rw[x8]at hx;split at hx
  .rcases Qe.1 hx with rfl|hx
   .exact hL _ a1 a2
   .exact qok C r L nx hr hL h0 Om x hx
  .split at hx
   .rcases Qe.1 hx with rfl|hx
    .exact hL _ a3 a4
    .refine qok C r _ (nx+1) hr (λt h1 h2=>?_) Om Om x hx
     rw[qju];split
     .omega
     .exact hL t h1 h2
   .rcases Qe.1 hx with rfl|hx
    .exact hL _ a1 a2
    .exact qok C r L nx hr hL h0 Om x hx
theorem q0u:∀(ss:List qit)(L:List (Int×Int))(nx:Int),∀x∈x8 ss L nx,x.fields=[]∨∃s∈ss,(s.kind=1∨s.kind=2)∧x.fields=s.was
 | [],L,nx,x,hx=>by simp[x8]at hx
 |s::r,L,nx,x,hx=>by
  have hr:∀L nx,x∈x8 r L nx->x.fields=[]∨∃y∈s::r,(y.kind=1∨y.kind=2)∧x.fields=y.was:=λL nx hx=>by
   rcases q0u r L nx x hx with h|⟨y,hy,h⟩
   .exact .inl h
   .exact .inr ⟨y,Zm _ hy,h⟩
  rw[x8]at hx;split at hx
  .rcases Qe.1 hx with rfl|hx
   .exact .inr ⟨s,Sx,.inl (by assumption),rfl⟩
   .exact hr _ _ hx
  .split at hx
   .rcases Qe.1 hx with rfl|hx
    .exact .inr ⟨s,Sx,.inr (by assumption),rfl⟩
    .exact hr _ _ hx
   .rcases Qe.1 hx with rfl|hx
    .exact .inl rfl
    .exact hr _ _ hx
theorem q37(C id:Int):∀(S:List (Int×List Fld))(p:Int),0<=p->p<=C->(∀s∈S,0<=s.1∧s.1<=C)->0<=yo id p S∧yo id p S<=C
 | [],p,h0,h1,_=>by rw[yo];omega
 |s::r,p,h0,h1,h=>by
  rw[yo];split
  .exact⟨h0,h1⟩
  .obtain⟨a,b⟩:=h s Sx
   exact q37 C id r s.1 a b λy hy=>h y (Zm _ hy)
theorem zhu{l:qs}(h:GN l):∀s∈stzF l.ents,0<=s.1∧s.1<=l.next:=λs hs=>by
 obtain⟨e,he,rfl⟩:=Qo.1 hs;obtain⟨h1,h2⟩:=Zl.1 he;have:=of_decide_eq_true h2;have:=h.lt e h1;simp only;omega
theorem qv7:∀(b:List qm)(l:qs),GN l->qeq b l->l.next<=(je b l).next∧(je b l).next<=l.next+(b.length:Int)
 | [],l,_,_=>by simp[je]
 |x::r,l,hg,ht=>by
  have h1:=qv7 r _ (qfj hg x) ht.2;have e:je (x::r) l=je r (oneF l x).2.2:=rfl;rw[e,Qf];rcases qmo hg ht.1 with⟨_,h2⟩|⟨_,h2⟩<;>(rw[h2]at h1;omega)
theorem q2q(C:Int):∀(b:List qm)(l:qs),GN l->qeq b l->(je b l).next<=C->∀s∈w9 b l,0<=s.id∧s.id<=C∧0<=s.ahead∧s.ahead<=C
 | [],l,_,_,_,s,hs=>by simp[w9]at hs
 |x::r,l,hg,ht,hC,s,hs=>by
  have e:je (x::r) l=je r (oneF l x).2.2:=rfl;rw[e]at hC;have hn:=qv7 r _ (qfj hg x) ht.2;have hx:=hg.nx;have d7:l.next<=C:=by rcases qmo hg ht.1 with⟨_,h2⟩|⟨_,h2⟩<;>(rw[h2]at hn;omega)
  rw[w9]at hs;rcases Qe.1 hs with rfl|hs
  .have ha:=q37 C x.id (stzF l.ents) 0 Om Om λs hs=>by have:=zhu hg s hs;omega
   have cq:0<=(yi l x).id∧(yi l x).id<=C:=by
    unfold yi
    have key:∀a b f,stzF l.ents=a++(x.id,f)::b->0<=x.id∧x.id<=C:=λa b f h=>by
     have:=zhu hg (x.id,f) (by rw[h];simp);simp only at this;omega
    rcases qmp hg ht.1 with⟨_,hi,a,c,f,e1,_⟩|⟨_,hi,a,c,f,e1,_⟩|⟨_,_,hi,_⟩
    .simp only
     rw[hi,if_neg Om];exact key a c f e1
    .simp only
     rw[hi,if_neg Om];exact key a c f e1
    .simp only
     rw[hi,if_pos Om];omega
   exact⟨cq.1,cq.2,ha.1,ha.2⟩
  .exact q2q C r _ (qfj hg x) ht.2 hC s hs
theorem qp1{l:qs}{b:List qm}(h:(doF l b).1=.no):eErr b=.no∧qeq b l∧(doF l b).2.1=je b l:=by
 unfold doF at h⊢;by_cases he:eErr b=.no
 .rw[if_pos he]at h⊢
  exact⟨he,qvv b 0 l [] h⟩
 .rw[if_neg he]at h
  exact absurd h he
theorem zob{l:qs}{b:List qm}(hn:GN l)(hl:GL l)(h:(doF l b).1=.no)(hx:(doF l b).2.1.next<=1000000):∀x∈qae l b,EdB x:=λx hx2=>by
 obtain⟨he,ht,ha⟩:=qp1 h
 have hb:b.length<=40:=by
  unfold eErr at he;split at he
  .simp at he
  .omega
 have hg:=qq4 hn b;have hg1:=hg.nx;unfold qae at hx2;have h1:=qok 2000000 (w9 b l).reverse [] (doF l b).2.1.next (λs hs=>q2q 2000000 b l hn ht (by rw[<-ha];omega) s (by simpa using hs)) (λt h1 h2=>by simp[wd];omega) Om (by rw[Xm,qhe];omega) x hx2
 have h2:x.fields=[]∨z0 x.fields=.no:=by
  rcases q0u _ _ _ x hx2 with h|⟨s,hs,hk,e⟩
  .exact .inl h
  .exact .inr (by rw[e];exact qsa b l hn hl ht s (by simpa using hs) hk)
 have hG:GF x.fields:=by
  rcases h2 with h|h
  .rw[h];exact⟨Sx,Sx⟩
  .exact⟨(qcm h).2.1,(qcm h).2.2⟩
 exact q5a (k:=x.kind) (n:=x.id) (fs:=x.fields) Om Om hG
structure qk6 where
 rep:Int
 del:Int
 ins:Int
 first:Int
 last:Int
 bytes:Int
def entF(b:List qm)(g:List Int)(n:Int):qk6:=
 ⟨(b.countP λx=>decide (x.kind=1):Nat),(b.countP λx=>decide (x.kind=2):Nat),(b.countP λx=> !decide (x.kind=1)&& !decide (x.kind=2):Nat),g.headD 0,g.getLastD 0,n⟩
def logL:List (List qm)->List (List Int)->List qk6
 |b::bs,g::gs=>entF b g (recE b).length::logL bs gs
 |_,_=>[]
theorem q58:∀(bs:List (List qm))(gs:List (List Int)),gs.length=bs.length->(logL bs gs).length=bs.length
 | [],gs,_=>by cases gs<;>rfl
 |x::bs,[],h=>by simp at h
 |x::bs,y::gs,h=>by rw[logL,Qf,q58 bs gs (by simpa using h),Qf]
theorem zd8{text:qa}{b:jy}(h:xz text b){i:Nat}{x:List qm}(hx:b.batches[i]?=some x):∃p:Nat,(qel b)[i]?=some (p:Int)∧b.ends[i]?=some ((p:Int)+(recE x).length):=by
 have hi:=(Qm.1 hx).1;refine⟨(wb b i).length,qj2 h Om,?_⟩;have h2:=qj2 h (n:=i+1) Om;have e:(qel b)[i+1]?=b.ends[i]?:=by unfold qel;rw[Qg]
 rw[e]at h2;rw[h2];have ht:b.batches.take (i+1)=b.batches.take i++[x]:=by rw[Za,hx];rfl
 unfold wb;rw[ht,qpq];simp;omega
def runT(text:qa):RunV:=(jh (zx text).2.base (zx text).2.batches).2
def logH(text:qa):ErrV×List qk6:=if(z8 text).1=.no then(.no,logL (z8 text).2.1.batches (runT text).given)else((z8 text).1,[])
def we(text:qa):ErrV×List qm:=
 if(z8 text).1=.no then(match(z8 text).2.1.batches.getLast? with
  |none=>(.num 7,[])
  |some x=>(.no,qae (qec (z8 text).2.1 ((z8 text).2.1.batches.length-1:Nat)).2.l x))else((z8 text).1,[])
def qam(text:qa):ErrV×qa:=if(we text).1=.no then appF text (we text).2 else((we text).1,[])
def xk(text:qa)(n:Int):ErrV×qa:=
 if(z8 text).1=.no then(if n<0∨((z8 text).2.1.batches.length:Int)<n then(.num 7,[])else(.no,wb (z8 text).2.1 n.toNat))else((z8 text).1,[])
theorem zbo{text:qa}{b:jy}{r:RunV}(hT:xz text b)(hp:jh b.base b.batches=(.no,r)):runT text=r:=by
 unfold runT;rw[zaa hT];simp only;rw[hp]
theorem qvy{text:qa}{b:jy}{r:RunV}{bs:List (List qm)}{x:List qm}(hT:xz text b)(hb:b.batches=bs++[x])(hp:jh b.base b.batches=(.no,r)):
  ∃r1,jh b.base bs=(.no,r1)∧(doF r1.l x).1=.no∧r.l=(doF r1.l x).2.1∧we text=(.no,qae r1.l x):=by
 have h:=hp;rw[hb]at h;obtain⟨r1,h1,h2⟩:=zgu h;obtain⟨h3,rfl⟩:=q68 h2;refine⟨r1,h1,h3,rfl,?_⟩;unfold we;rw[qr3 hT hp];simp only;have e:b.batches.getLast?=some x:=by rw[hb];simp
 rw[if_pos trivial,e];simp only;have hl:b.batches.length-1=bs.length:=by rw[hb];simp
 have ht:b.batches.take bs.length=bs:=by rw[hb];simp
 unfold qec;rw[if_neg (by rw[hl,hb];simp;omega),hl];simp only[Qz];rw[ht,h1]
theorem q0i(id:Int):∀(S:List (Int×List Fld))(k:Nat)(p:Int),
  (qep id k S= -1∧yo id p S=0)∨(qep id k S=(k:Int)∧yo id p S=p)∨∃(i:Nat)(s:Int×List Fld),S[i]?=some s∧qep id k S=((k+(i+1):Nat):Int)∧yo id p S=s.1
 | [],k,p=>.inl ⟨by rw[qep],by rw[yo]⟩
 |s::r,k,p=>by
  rw[qep,yo];by_cases h:s.1=id
  .rw[if_pos h,if_pos h]
   exact .inr (.inl ⟨rfl,rfl⟩)
  .rw[if_neg h,if_neg h]
   rcases q0i id r (k+1) s.1 with⟨h1,h2⟩|⟨h1,h2⟩|⟨i,x,h0,h1,h2⟩
   .exact .inl ⟨h1,h2⟩
   .exact .inr (.inr ⟨0,s,rfl,by rw[h1],h2⟩)
   .exact .inr (.inr ⟨i+1,x,by simpa using h0,by rw[h1];congr 1;omega,h2⟩)
theorem qs7(l:qs)(id:Int):(qf4 l id<=0∧qbp l id=0)∨∃(i:Nat)(s:Int×List Fld),qf4 l id=((i+1:Nat):Int)∧(stzF l.ents)[i]?=some s∧qbp l id=s.1:=by
 unfold qf4 qbp;rcases q0i id (stzF l.ents) 0 0 with⟨h1,h2⟩|⟨h1,h2⟩|⟨i,s,h0,h1,h2⟩
 .exact .inl ⟨Om,h2⟩
 .exact .inl ⟨Om,h2⟩
 .exact .inr ⟨i,s,by rw[h1];congr 1;omega,h0,h2⟩
theorem q98{id:Int}(h:1<=id):∀(es:List EntV)(k:Nat),(xb id k es= -1∧(stzF es).find? (λs=>decide (s.1=id))=none)∨
  ∃(i:Nat)(e:EntV),es[i]?=some e∧xb id k es=((k+i:Nat):Int)∧(stzF es).find? (λs=>decide (s.1=id))=some (id,e.x.fields)
 | [],k=>.inl ⟨by rw[xb],rfl⟩
 |e::r,k=>by
  rw[xb,qcz];by_cases he:e.id=id
  .rw[if_pos he,if_pos Om]
   exact .inr ⟨0,e,rfl,rfl,by rw[Xd (by simp[he]),he]⟩
  .rw[if_neg he]
   have hr:=q98 h r (k+1)
   have key:(if 0<e.id then(e.id,e.x.fields)::stzF r else stzF r).find? (λs=>decide (s.1=id))=(stzF r).find? (λs=>decide (s.1=id)):=by
    split
    .rw[Xe (by simp[he])]
    .rfl
   rw[key];rcases hr with⟨h1,h2⟩|⟨i,x,h0,h1,h2⟩
   .exact .inl ⟨h1,h2⟩
   .exact .inr ⟨i+1,x,by simpa using h0,by rw[h1];congr 1;omega,h2⟩
theorem qu3(l:qs)(id:Int):(atF l id<0∧(1<=id->qau l id=[]))∨∃(i:Nat)(e:EntV),atF l id=(i:Int)∧l.ents[i]?=some e∧qau l id=e.x.fields:=by
 unfold atF qau;by_cases h:id<1
 .rw[if_pos h]
  exact .inl ⟨Om,λq=>by omega⟩
 .rw[if_neg h]
  rcases q98 (by omega:1<=id) l.ents 0 with⟨h1,h2⟩|⟨i,e,h0,h1,h2⟩
  .exact .inl ⟨Om,λ_=>by rw[h2];rfl⟩
  .exact .inr ⟨i,e,by rw[h1];congr 1;omega,h0,by rw[h2];rfl⟩
def renP(P:List (Int×Int))(id:Int):Int:=match P.reverse.find? λq=>decide (q.1=id)with
 |some q=>q.2
 |none=>id
theorem q2i(P:List (Int×Int))(s n t:Int):renP (P++[(s,n)]) t=if t=s then n else renP P t:=by
 unfold renP;rw[Xl,Xc,Xh];by_cases h:t=s
 .rw[if_pos h,Xd (by simp[h])]
 .rw[if_neg h,Xe (by simp;exactλe=>h e.symm)]
theorem zd1{P L:List (Int×Int)}(h:∀t,renP P t=wd L t)(s n:Int):∀t,renP (P++[(s,n)]) t=wd (Go.Av.setM s n L) t:=λt=>by
 rw[q2i,qju,h t]
def qiz:List qit->List (Int×Int)->Int->List qm
 | [],_,_=>[]
 |s::r,P,nx=>if s.kind=1 then⟨1,renP P s.id,s.was⟩::qiz r P nx else if s.kind=2 then⟨3,renP P s.ahead,s.was⟩::qiz r (P++[(s.id,nx)]) (nx+1)else⟨2,renP P s.id,[]⟩::qiz r P nx
theorem quq:∀(ss:List qit)(P L:List (Int×Int))(nx:Int),(∀t,renP P t=wd L t)->qiz ss P nx=x8 ss L nx
 | [],P,L,nx,h=>by rw[qiz,x8]
 |s::r,P,L,nx,h=>by
  rw[qiz,x8,h s.id,h s.ahead,quq r P L nx h,quq r (P++[(s.id,nx)]) (Go.Av.setM s.id nx L) (nx+1) (zd1 h s.id nx)]
theorem zkt(t:Int):renP [] t=wd [] t:=rfl
theorem qys:∀(b:List qm)(l:qs)(i:Nat)(x:qm),b[i]?=some x->(w9 b l)[i]?=some (yi (je (b.take i) l) x)
 | [],l,i,x,h=>by simp at h
 |y::r,l,0,x,h=>by
  simp only[Qr,Qb]at h;subst h
  rfl
 |y::r,l,i+1,x,h=>by
  rw[Qg]at h;rw[w9,Qg,qys r _ i x h];rfl
end Go.Pl
namespace Go.Pl
open Go Go.Proofs Go.Av Go.Proofs.YtlekheifonaipaaGreatDoor
def dupS(key:qa)(pre:List (Int×List Fld))(x:Int×List Fld):Bool:=(qsd key x.2).any λv=>pre.any λy=>decide (v∈qsd key y.2)
def zis(r:qen)(pre:List (Int×List Fld))(x:Int×List Fld):Prop:=x.2.any (badR r)=true∨(r.kind=1∧cntR r x.2=0)∨(r.kind=2∧1<cntR r x.2)∨(r.kind=7∧dupS r.key pre x=true)
instance (r:qen)(pre:List (Int×List Fld))(x:Int×List Fld):Decidable (zis r pre x):=inferInstanceAs (Decidable (_∨(_∧_)∨(_∧_)∨(_∧_)))
end Go.Pl
namespace Go.Proofs.YtlekheifonaipaaGreatDoor
open Go Go.Av Go.RowKit Go.Proofs Go.Pl
theorem cSd2{P:Prop}(h:P:=by first|exact rfl|exact trivial|exactλ_=>rfl|exact qs0 _|exact DrOk.mk Kr|exact qdv λ_=>rfl|omega|(simp only[List.length_map,List.length_append,List.length_cons,List.length_nil,List.length_take,List.length_drop];omega)|exact zpg):P:=h
theorem q83(b:List qm)(st:List AObj)(hl:b.length<1000000)(hf:∀x∈b,x.fields.length<1000000):qp E 7 [zh b,zh b] st λr st'=>r=Bv true∧st'=st:=by
 refine ze [.a (zh b),.a (zh b)] (qr _) Tryz.func7 rfl rfl (λ_=>rfl) rfl λS0=>?_;have sb:(b.map zt).length=b.length:=Sx
 apply qd [];repeat' (first|apply Qa|(intro h;try exact cDd)|exact cSd2|apply qb []|refine exr ?_|refine qe ?_)
 refine zw (X:=Nat) (λk=>⟨[(0,.a (zh b)),(1,.a (zh b)),(12,.i (b.map zt).length),(13,.i k)],[],0⟩) (λk=>k<=b.length) (λk=>b.length-k) 0 (by omega) ?_ ?_
 .skip
  repeat' (first|apply Qa|(intro h;try exact cDd)|exact cSd2|apply qb []|refine exr ?_|refine qe ?_)
 .rintro k hk
  by_cases e9:k<b.length
  .obtain⟨y,hy⟩:∃y,b[k]?=some y:=⟨_,Qd e9⟩
   have d8:=qq5 hy;have hxf:=hf y (Qq hy);have hfe:=λst=>zfq y.fields y.fields st (by omega);rw[decide_eq_true rfl]at hfe;apply qd [];repeat' (first|apply Qa|(intro h;try exact cDd)|(refine Qc (k) ⟨(by omega),_,d8,?_⟩)|exact⟨Tryz.call24⟩|refine cpe hfe ?_|(refine Qc (k+1) ⟨(by omega),(by omega),?_⟩)|exact cSd2|apply qb []|refine exr ?_|refine qe ?_)
  .apply qd []
   repeat' (first|apply Qa|(intro h;try exact cDd)|exact cSd2|apply qb []|refine exr ?_|refine qe ?_)
theorem zk1(b:jy)(st:List AObj)(hB:BkB b):qp E 37 [qas b] st λr st'=>r=.tu [qnu (if(jh b.base b.batches).1=.no then(jh b.base b.batches).2.given else []),errA (jh b.base b.batches).1]∧st'=st:=by
 have hp:=λst=>zbm b.base b.batches st hB.base hB.len hB.bat;refine ze [.a (.ag [Iv b.gen,Sv b.base,qb7 b.batches,yh b.ends,Sv b.tail])] (ju (qi7 _) (ki _)) Tryz.func37 rfl rfl (λ_=>rfl) rfl λS0=>?_;generalize jh b.base b.batches=p at *;obtain⟨e,r⟩:=p
 cases e
 all_goals apply qd [1]
 repeat' (first|apply Qa|(intro h;try exact cDd)|exact⟨Tryz.call38⟩|refine cpe hp ?_|exact cSd|apply qb [1]|refine exr ?_|refine qe ?_)
end Go.Proofs.YtlekheifonaipaaGreatDoor
namespace Go.Pl
open Go
def i64(n:Int):Prop:= -9223372036854775808<=n∧n<=9223372036854775807
end Go.Pl
namespace Go.Proofs.YtlekheifonaipaaGreatDoor
open Go Go.Av Go.RowKit Go.Proofs Go.Pl
structure ItC2 (g:FuncId) (T:TypeId) (cs:List AV) {ι:Type} (Y:ι->Option ((AV×AV)×ι)) (i0:ι):Prop where
 run:∀(o kb n m:Nat)(I:ι->List AObj->Prop)(D:List AObj->Prop)(S:List AObj),S.length=m->n<=m->I i0 S->
  (∀i S',I i S'->S'[kb]?=some (.cells 0 T cs))->(∀i S' S'',Ext n S' S''->I i S'->I i S'')->
  (∀i x j S'(own:List AObj),I i S'->(∀k y,own[k]?=some y->S'[m+k]?=some y∧qhz (some y))->Y i=some (x,j)->yz E o [x.1,x.2] S' λb S''=>(∀k y,own[k]?=some y->S''[m+k]?=some y)∧(b=true->I j S'')∧(b=false->D S''))->
  qp E g [.yd o,.bx kb 0 0] S λr S'=>(∃i,Y i=none∧I i S')∨D S'
theorem q27{N:Nat}{Q:Exit->AS->Prop}{s:AS}{f:Operand}{p q:Tmp}{asg body:Code}{S0:List AObj}{kb:Nat}{g:FuncId}{T:TypeId}{cs:List AV}{ι:Type}{Y:ι->Option ((AV×AV)×ι)}{i0:ι}(tj:ItC2 g T cs Y i0)(e7:s.st=S0)(hx:ql N s f=.fn (.func g) [] [.bx kb 0 0])
  (a8:∀vs w,(callFunc g vs).run E.P w=.ok (.enter g vs) w)
  (I:ι->List AObj->Prop) (D:Code->List AObj->Prop) (h0:I i0 S0)
  (hI:∀i S,I i S->S[kb]?=some (.cells 0 T cs))
  (pd:∀i S S',Ext S0.length S S'->I i S->I i S') (pt:∀c S S',Ext S0.length S S'->D c S->D c S')
  (hb:∀F(own:List AObj)rd i x j S,qlw F N s.t #[p,q] asg body->I i S->Y i=some (x,j)->S[S0.length]?=some .dfr->S[S0.length+1]?=some (F .ready none)->(∀k y,own[k]?=some y->S[S0.length+2+k]?=some y∧qhz (some y))->
   AWp E (some rd) N asg (only λs1=>s1.st[S0.length+1]?=some (F .ready none)∧s1.df=[]∧AWp E (some rd) N body (zhd S0.length F own (I j) D) ⟨s1.t,s1.st.set (S0.length+1) (F .busy none),[]⟩) ⟨put (put s.t p x.1) q x.2,S,[]⟩)
  (hn:∀i S,Y i=none->I i S->S[S0.length]?=some .dfr->Q .normal ⟨s.t,S,S0.length::s.df⟩)
  (hd:∀c S,D c S->S[S0.length]?=some .dfr->AWp E none N c Q ⟨s.t,S,S0.length::s.df⟩):AWp E none N (.rangeFunc f #[p,q] asg body) Q s:=by
 refine qkg (st:=S0) (loc:=[]) (by rw[e7];simp) hx a8 λF hF=>?_;have hl:(S0++([]++[AObj.dfr,F .ready none])).length=S0.length+2:=Sx
 have g1:(S0++([]++[AObj.dfr,F .ready none]))[S0.length]?=some .dfr:=Sx
 have g2:(S0++([]++[AObj.dfr,F .ready none]))[S0.length+1]?=some (F .ready none):=Sx
 have hz:S0.length+(([]:List AObj).length+1)=S0.length+1:=Sx
 rw[hz,show S0.length+([]:List AObj).length=S0.length from rfl];refine qp.mono (tj.run (S0.length+1) kb (S0.length+2) (S0.length+2) (λi S=>I i S∧S[S0.length]?=some .dfr∧S[S0.length+1]?=some (F .ready none)) (λS=>∃c,D c S∧S[S0.length]?=some .dfr∧S[S0.length+1]?=some (F .done (some c))) (S0++([]++[.dfr,F .ready none])) hl (Qu _) ⟨pd _ _ _ (qig (Qu _)) h0,g1,g2⟩ (λi S h=>hI i S h.1) (λi S S' hE h=>⟨pd _ _ _ (hE.weak Om) h.1,(hE.low _ Om).trans h.2.1,(hE.low _ Om).trans h.2.2⟩) ?_) ?_
 .rintro i x j S' own ⟨hi,hd1,mf⟩ bz hy
  refine qoi hF mf rfl λrd=>?_;refine(hb F own rd i x j S' hF hi hy hd1 mf bz).mono λe s1 hq=>?_;have fin:∀{S:List AObj}{z:AObj},(∀k y,own[k]?=some y->S[S0.length+2+k]?=some y)->∀k y,own[k]?=some y->(S.set (S0.length+1) z)[S0.length+2+k]?=some y:=λh k y hk=>j8 (h k y hk) Om
  cases e with
  |normal=>
   obtain⟨q1,q2,q3⟩:=hq;refine⟨q1,q2,q3.mono λe s2 s4=>?_⟩
   cases e with
   |normal=>
    obtain⟨k1,k2,k3,k4⟩:=s4
    exact⟨k2,fin k3,λ_=>⟨pd _ _ _ (qbg Om (qc8 hF _ _ k2)) k4,j8 k1 Om,kg k2⟩,nofun⟩
   |ret=>
    obtain⟨k1,k2,k3,k4⟩:=s4
    exact⟨k2,fin k3,nofun,λ_=>⟨_,pt _ _ _ (qbg Om (qc8 hF _ _ k2)) k4,j8 k1 Om,kg k2⟩⟩
   |exit id=>
    obtain⟨k1,k2,k3,k4⟩:=s4
    exact⟨k2,fin k3,nofun,λ_=>⟨_,pt _ _ _ (qbg Om (qc8 hF _ _ k2)) k4,j8 k1 Om,kg k2⟩⟩
   |_=>exact s4.elim
  |_=>exact hq.elim
 .rintro r S' (⟨i,hy,hi,hd1,mf⟩|⟨c,hi,hd1,mf⟩)
  .exact⟨.ready,none,nofun,mf,hn i _ hy (pd _ _ _ (qbg Om (qc8 hF _ _ mf)) hi) (j8 hd1 Om)⟩
  .exact⟨.done,some c,nofun,mf,hd c _ (pt _ _ _ (qbg Om (qc8 hF _ _ mf)) hi) (j8 hd1 Om)⟩
def evY2{ι:Type}(Y:ι->Option ((SV×SV)×ι))(i:ι):Option ((AV×AV)×ι):=match Y i with
 |some (v,j)=>some ((v.1.ev λ_=>zm,v.2.ev λ_=>zm),j)
 |none=>none
section
variable {N : Nat} {B : Bs} {C : Conf} {Q : Exit → Conf → Prop} {rd : Option Nat}
theorem q70{X:Type}{f:Operand}{p q:Tmp}{asg body:Code}{g:FuncId}{T:TypeId}{cs:List AV}{ι:Type}{Y:ι->Option ((SV×SV)×ι)}{i0:ι}(tj:ItC2 g T cs (evY2 Y) i0)(a8:∀vs w,(callFunc g vs).run E.P w=.ok (.enter g vs) w)(hY:∀i v j,Y i=some (v,j)->(v.1.all (λ_=>false)&&v.2.all (λ_=>false))=true)(kb n0:Nat)(cv:List SV)(hcv:∀ρ,SV.evs ρ cv=cs)(ks:List Nat)(I:X->Conf)(sl0:List (Nat×SV))(P:ι->X->Prop)(D:Code->X->Prop)(x0:X)(h0:P i0 x0)
  (he:EntA B.n0 C (I x0)) (hz:¬B.dz) (fm:∀x,(I x).sl=sl0)
  (hf:sval N sl0 f=some (.fn (.func g) [] [.bx kb 0]))
  (hkb:∀x,lkS (I x).hp kb=some (some (.cells T cv)))
  (hr:∀x,qbu n0 ks (I x).sl (I x).hp (I x).nx=true) (h0r:(ksIn n0 ks (I x0).hp&&Xw B.n0 n0)=true)
  (hb:∀i x v j,P i x->Y i=some (v,j)->RA E N n0 asg (λF ρ C1=>RB E N F ρ n0 body (rndQ n0 (P j) D I) C1) ⟨(q,v.2)::(p,v.1)::(I x).sl,(I x).hp,(I x).nx⟩)
  (hn:∀i x,Y i=none->P i x->Q .normal (I x)) (hd:∀c x,D c x->q3p Q c (I x)):Sm E none N B (.rangeFunc f #[p,q] asg body) Q C:=⟨λs hs=>by
 obtain⟨ts,S0,df⟩:=s;obtain⟨ρ0,hF0,hR0⟩:=hs;simp only at hF0 hR0;obtain⟨σ,hrg,he⟩:=he.ent;have hF1:=hF0.ren (C':=I x0) hrg;obtain⟨t,hw,ng⟩:=he.sat hR0;clear hF0 hR0 he hrg;generalize renR σ ρ0=ρ1 at hF1 ng;refine qwo hw ?_;simp only[Qp]at h0r;have hBn:=Qw h0r.2;have hB:=ng.len
 have lk:∀k∈ks,k<n0∧∃o,zq (ρ1 k)=some o∧o<S0.length:=λk hk=>by
  have:=Zu.1 h0r.1 k hk;simp only[Qp]at this;refine⟨vi this.1,?_⟩;have h2:=this.2;split at h2
  .rename_i T cs hl
   have s8:hpF (I x0).hp k=some (.cells T cs):=by unfold hpF;rw[hl]
   obtain⟨o,v,h1,h3,rfl⟩:=ng.hp.ok k _ s8;exact⟨o,by rw[h1];rfl,lt_of_getElem? h3⟩
  .rename_i P hl
   have s8:hpF (I x0).hp k=some (.obj P):=by unfold hpF;rw[hl]
   obtain⟨o,x,h1,h3,_⟩:=ng.hp.ok k _ s8;exact⟨o,h1,lt_of_getElem? h3⟩
  .simp at h2
 have hdn:∀d∈df,d<S0.length:=λd hd=>lt_of_getElem? (hF1.dm d hd).1;have hi0:RInv B n0 S0.length ks ρ1 t df (I x0) S0:=⟨ρ1,λ_ _=>rfl,ng,λd hd=>(hF1.dm d hd).1,Qu _⟩
 have hnm:∀x,(sl0.all λq=>q.2.all λk=>Yd k n0)=true:=λx=>by
  have:=hr x;simp only[qbu,Qp,fm]at this;exact this.1.1
 have hnm:=hnm x0
 have slot:∀{ρ:Nat->AV},(∀k,k<n0->ρ k=ρ1 k)->SlOk ρ t sl0:=λ{ρ}hρ d v hd=>by
  rw[ng.sl d v (by rw[fm];exact hd)];exact(qbm (λk hk=>hρ k (vi hk)) v (Zu.1 hnm _ (vn hd))).symm
 have bt:∀x,n0<=(I x).nx:=λx=>by
  have:=hr x;simp only[qbu,Qp]at this;exact Qw this.2
 have hkb1:kb<n0∧∃o,ρ1 kb=.bx o 0 0∧o<S0.length:=by
  have h1:=hr x0;simp only[qbu,Qp]at h1;have:=Zu.1 h1.1.2 _ (vn (hkb x0));have s8:hpF (I x0).hp kb=some (.cells T cv):=by unfold hpF;rw[hkb x0]
  obtain⟨o,v,h1,h3,rfl⟩:=ng.hp.ok kb _ s8;exact⟨(lk kb (qo9 this)).1,o,h1,lt_of_getElem? h3⟩
 obtain⟨hkbn,okb,hokb,hokl⟩:=hkb1;have hfe:=q7 (S:=S0) (df:=df) (slot λ_ _=>rfl) hf;simp only[SV.ev,SV.evs,hokb,bxAt]at hfe
 have out:∀{x S},RInv B n0 S0.length ks ρ1 t df (I x) S->S[S0.length]?=some .dfr->SatC B (I x) ⟨t,S,S0.length::df⟩:=λ{x S}hi hm=>by
  obtain⟨ρ,hρ,hR,gj,hnS⟩:=hi.ex;refine⟨ρ,⟨λd hd=>?_,Zz.2 ⟨λh=>Nat.lt_irrefl _ (hdn _ h),hF1.nd⟩,λk hk=>(hρ k Om).trans (hF1.rig k hk),Nat.le_trans hBn (bt x),λh=>(hz h).elim⟩,hR⟩;rcases Qe.1 hd with rfl|hd
  .exact⟨hm,hB⟩
  .exact⟨gj d hd,(hF1.dm d hd).2⟩
 refine q27 (S0:=S0) tj rfl hfe a8
  (λi S=>∃x,P i x∧RInv B n0 S0.length ks ρ1 t df (I x) S) (λc S=>∃x,D c x∧RInv B n0 S0.length ks ρ1 t df (I x) S) ⟨x0,h0,hi0⟩ ?_ ?_ ?_ ?_ ?_ ?_
 .rintro i S ⟨x,_,hi⟩
  obtain⟨ρ,hρ,hR,_⟩:=hi.ex;have s8:hpF (I x).hp kb=some (.cells T cv):=by unfold hpF;rw[hkb x]
  obtain⟨o,v,h1,h3,rfl⟩:=hR.hp.ok kb _ s8;rw[hρ kb hkbn,hokb]at h1;simp only[AV.bx.injEq]at h1;obtain⟨rfl,_⟩:=h1;rw[hcv]at h3;exact h3
 .rintro i S S' hE ⟨x,hx,hi⟩
  exact⟨x,hx,hi.ext lk (hr x) hB hdn hE⟩
 .rintro c S S' hE ⟨x,hx,hi⟩
  exact⟨x,hx,hi.ext lk (hr x) hB hdn hE⟩
 .rintro F own rd i u j S hF ⟨x,hx,hi⟩ hy ln hm1 tn
  obtain⟨v,hv,hu⟩:∃v,Y i=some (v,j)∧u=(v.1.ev λ_=>zm,v.2.ev λ_=>zm):=by
   unfold evY2 at hy;split at hy
   .rename_i v j2 hv
    simp only[Qb,Qh]at hy;obtain⟨rfl,rfl⟩:=hy;exact⟨v,hv,rfl⟩
   .simp at hy
  subst hu;have hva:=hY i v j hv;obtain⟨ρ,hρ,hR,gj,hnS⟩:=hi.ex
  -- what no resource's place is
  have qcb:∀o y,S[o]?=some y->S0.length<=o->(∀m sz T,y≠.tip m sz T)->¬qav (I x).hp ρ o:=λo y hy ho hyt ⟨k,r,hk,hl⟩=>by
   rcases SR.ok_ct (hR.hp.ok k r hk) hl with⟨T,cs,v,h1,T',cs',rfl⟩|⟨m,sz,T,h1⟩|⟨sz,T,xs,rfl⟩|⟨P1,rfl⟩|⟨T2,ys2,cs2,rfl⟩
   rotate_left 2
   .exact(q61 (hr x) hk).elim
   .obtain⟨_,o',h2,h3⟩:=q6p lk (hr x) hρ hk
    rw[h2]at hl;simp only[Qb]at hl;omega
   .exact(qz1 (hr x) hk).elim
   .obtain⟨_,o',h2,h3⟩:=quu lk (hr x) hρ hk
    rw[h2]at hl;simp only[Qb]at hl;omega
   .rw[h1]at hy
    simp only[Qb]at hy;exact hyt _ _ _ hy.symm
  have a0:=qcb _ _ ln Om (λ_ _ _=>by simp);have a1:=qcb _ _ hm1 Om (λ_ _ _=>by rw[hF];simp);have a2:=λk y hk=>qcb _ _ (tn k y hk).1 Om (λm sz T e=>(tn k y hk).2 m sz T (by rw[e]));have ad:∀d∈df,¬qav (I x).hp ρ d:=λd hd ⟨k,r,hk,hl⟩=>SR.ok_dfr (hR.hp.ok k r hk) hl (gj d hd);have l2:=lt_of_getElem? hm1
  have s1:=((hb i x v j hx hv).run S (qav (I x).hp ρ) ρ1 rd).run ⟨put (put t p (v.1.ev λ_=>zm)) q (v.2.ev λ_=>zm),S,[]⟩
   ⟨ρ,⟨nofun,Xv,hρ,bt x,λ_=>rfl⟩,?_⟩
  rotate_left
  .have p9:=hR.rebase (S':=S) λ_ _=>rfl
   refine⟨λd v hd=>?_,p9.hp,p9.own,p9.low,p9.len,λd v hd=>?_,p9.whp⟩
   .have rp:=hva
    simp only[Qp]at rp;simp only[lkS]at hd
    cases hbq:Zs q d with
    |true=>
     rw[hbq]at hd;simp only[cond_true,Qb]at hd;have e:=Xi hbq;subst e hd;simp only[put];rw[qbm (f:=λ_=>false) (ρ:=λ_=>zm) (ρ':=ρ) (λk hk=>by simp at hk) v.2 rp.2]
     simp
    |false=>
     rw[hbq]at hd;have eq:d≠q:=λe=>by subst e;simp at hbq
     simp only[cond_false]at hd
     cases s6:Zs p d with
     |true=>
      rw[s6]at hd;simp only[cond_true,Qb]at hd;have e:=Xi s6;subst e hd;simp only[put];rw[show Zs p q=false from jv eq];rw[qbm (f:=λ_=>false) (ρ:=λ_=>zm) (ρ':=ρ) (λk hk=>by simp at hk) v.1 rp.1]
      simp
     |false=>
      rw[s6]at hd;have e:d≠p:=λe=>by subst e;simp at s6
      have:=p9.sl d _ hd;simp only[put];rw[show Zs d q=false from jv eq,show Zs d p=false from jv e];exact this
   .have rp:=hva
    simp only[Qp]at rp;simp only[lkS]at hd
    cases hbq:Zs q d with
    |true=>
     rw[hbq]at hd;simp only[cond_true,Qb]at hd;subst hd
     exact all_mono (f:=λ_=>false) (λk hk=>by simp at hk) v.2 rp.2
    |false=>
     rw[hbq]at hd;simp only[cond_false]at hd
     cases s6:Zs p d with
     |true=>
      rw[s6]at hd;simp only[cond_true,Qb]at hd;subst hd
      exact all_mono (f:=λ_=>false) (λk hk=>by simp at hk) v.1 rp.1
     |false=>
      rw[s6]at hd;exact p9.wsl d _ hd
  refine s1.mono λe s1 ⟨C1,hq,pd⟩=>?_
  cases e with
  |normal=>
   obtain⟨ρs,hFs,hRs⟩:=pd;have hdf1:=hFs.dz trivial;have b1:s1.st[S0.length+1]?=some (F .ready none):=(hRs.low _ (by simp only;omega) a1).trans hm1;refine⟨b1,hdf1,?_⟩;have hq:=(hq (qav C1.hp ρs)).run (s1.st.set (S0.length+1) (F .busy none)) (some rd)
   have c0:∀o,o<S.length->¬qav (I x).hp ρ o->¬qav C1.hp ρs o:=λo ho hn ⟨k,r,hk,hl⟩=>by
    rcases hRs.own k r hk o hl with h|h
    .simp only at h
     omega
    .exact hn h
   have hRb:=hRs.rebase (S':=s1.st.set (S0.length+1) (F .busy none)) λo ho=>Xj λe=>c0 (S0.length+1) Om a1 (by rw[e];exact ho);refine(hq.run ⟨s1.t,s1.st.set (S0.length+1) (F .busy none),[]⟩ ⟨ρs,⟨nofun,Xv,hFs.rig,hFs.le,nofun⟩,hRb⟩).mono λe s2 ⟨C2,s4,pt⟩=>?_;obtain⟨ρ2,hF2,mq⟩:=pt;have br:=hRs.len
   have keep:∀o y,o≠S0.length+1->S[o]?=some y->¬qav (I x).hp ρ o->s2.st[o]?=some y:=λo y b9 hy hn=>by
    have ho:=lt_of_getElem? hy;rw[mq.low o (by simp only[Zn];simp only at br;omega) (c0 o ho hn)];simp only;rw[Xj (λe=>b9 e.symm),hRs.low o ho hn];exact hy
   have k0:=keep _ _ Om ln a0;have k2:∀k y,own[k]?=some y->s2.st[S0.length+2+k]?=some y:=λk y hk=>keep _ _ Om (tn k y hk).1 (a2 k y hk)
   have k1:s2.st[S0.length+1]?=some (F .busy none):=by
    rw[mq.low _ (by simp only[Zn];simp only at br;omega) (c0 _ Om a1)];simp only;exact kg b1
   have fin:∀x',EntA n0 C2 (I x')->RInv B n0 S0.length ks ρ1 t df (I x') s2.st:=λx' gk=>by
    obtain⟨σ2,hrg2,he2⟩:=gk.ent;have hF3:=hF2.ren (C':=I x') hrg2;obtain⟨t3,_,td⟩:=he2.sat mq;have hl3:=td.len;simp only[Zn]at hl3;simp only at br;refine⟨_,hF3.rig,⟨by rw[fm];exact slot hF3.rig,td.hp,λk r hk o ho=>?_,λj hj hnj=>?_,Om,td.wsl,td.whp⟩,λd hd=>?_,Om⟩
    .rcases td.own k r hk o ho with h|⟨k',r',h,h'⟩
     .simp only[Zn]at h
      exact .inl Om
     .rcases hRs.own k' r' h o h' with h|⟨k2,r2,h2,h3⟩
      .simp only at h
       exact .inl Om
      .exact hR.own k2 r2 h2 o h3
    .have hj0:¬qav (I x).hp ρ j:=λ⟨k',r',h,h'⟩=>by
      rcases hR.own k' r' h j h' with h|h
      .omega
      .exact hnj h
     have hjS:j<S.length:=Om
     rw[<-hR.low j hj hnj];obtain⟨y,hy⟩:∃y,S[j]?=some y:=⟨_,Qd hjS⟩;rw[hy];exact keep j y Om hy hj0
    .exact keep d _ (by have:=hdn d hd;omega) (gj d hd) (ad d hd)
   cases e with
   |normal=>
    obtain⟨x',i4,gk⟩:=s4
    exact⟨k0,k1,k2,x',i4,fin x' gk⟩
   |ret=>
    obtain⟨x',i4,gk⟩:=s4
    exact⟨k0,k1,k2,x',i4,fin x' gk⟩
   |exit id=>
    obtain⟨x',i4,gk⟩:=s4
    exact⟨k0,k1,k2,x',i4,fin x' gk⟩
   |_=>exact s4.elim
  |_=>exact hq.elim
 .rintro i S hy ⟨x,hx,hi⟩ hm
  exact⟨I x,hn i x (by
   unfold evY2 at hy;split at hy
   .simp at hy
   .assumption) hx,out hi hm⟩
 .rintro c S ⟨x,hx,hi⟩ hm
  have hq:=hd c x hx
  cases c with
  |ret=>exact qu ⟨I x,hq,out hi hm⟩
  |exit id=>exact z7 ⟨I x,hq,out hi hm⟩
  |_=>exact hq.elim⟩
end
end Go.Proofs.YtlekheifonaipaaGreatDoor
namespace Go.Av
open Go Go.RowKit
def zd4(H:Nat->Option SR):List (Nat×Option SR)->Prop
 | []=>True
 |(k,r)::l=>H k=r∧zd4 H l
theorem q2j{H:Nat->Option SR}:∀{hp:List (Nat×Option SR)},zd4 H hp->resF (kr hp) H=hpF hp
 | [],_=>by funext k;simp[resF,kr,memN,hpF,lkS]
 |(i,r)::l,h=>by
  have ih:=congrFun (q2j h.2);funext k;have:=ih k;unfold resF memN kr hpF at this⊢;simp only[Zp,Zo,lkS];by_cases e:i=k
  .subst e
   simp[h.1]
  .rw[jv e,jv λh=>e h.symm,Xk,cond_false]
   exact this
theorem qsm{E:Env}{f:FuncId}{vs:List SV}{t7:List (Nat×Option SR)}{nx0 nx:Nat}{v:SV}{H:Nat->Option SR}(h:vb E f vs nx0 (hpF t7) ⟨v,kr t7,t7++vw t7,nx0⟩)(hs:zd4 H t7):
  vb E f vs nx H ⟨v,kr t7,[],nx⟩:=λρ S hS=>by
 have hr:=q2j hs;simp only[hr]at hS;refine(h ρ S (by simpa only[wc]using hS)).mono ?_;rintro r S' ⟨ρ',rfl,hp⟩;have e:ρ'=ρ:=funext λk=>hp.old k (by simp only;omega);subst e;refine⟨ρ',rfl,λ_ _=>rfl,?_,hp.len,λj hj hn=>?_,λk r hk o ho=>?_⟩
 .have:=hp.sat
  simp only[wc,qee]at this;have e2:chF [] (resF (kr t7) H)=hpF t7:=by rw[hr];rfl
  simp only[e2];exact this
 .refine hp.fr j hj λk r hk=>?_
  simp only[wc]at hk;exact hn k r (by simp only[hr];exact hk)
 .have e2:chF [] (resF (kr t7) H)=hpF t7:=by rw[hr];rfl
  simp only[e2]at hk;exact .inr ⟨k,r,by simp only[hr];exact hk,ho⟩
structure LocK (E:Env) (N:Nat) (l:List Oper) (o:Oper) (nx:Nat) (sl:List (Nat×SV)) (H:Nat->Option SR) (k:Ef->Prop):Prop where
 ex:∃e,Loc E N l.toArray o nx sl H e∧k e
theorem locK{E:Env}{N:Nat}{l:List Oper}{o:Oper}{nx:Nat}{sl:List (Nat×SV)}{H:Nat->Option SR}{k:Ef->Prop}(h:opG E N l [] nx sl H k o):LocK E N l o nx sl H k:=⟨q6v h⟩
theorem locX{E:Env}{N:Nat}{l:List Oper}{o:Oper}{nx:Nat}{sl:List (Nat×SV)}{H:Nat->Option SR}{k:Ef->Prop}(h:∃e,Loc E N l.toArray o nx sl H e∧k e):LocK E N l o nx sl H k:=⟨h⟩
end Go.Av
namespace Go.Proofs.YtlekheifonaipaaGreatDoor
open Go Go.Av Go.RowKit Go.Proofs Go.Pl
structure qv5 (l:qs):Prop where
 lb:LB 300040 l
 li:LI l
 lm:LM l
theorem qv5.its{l:qs}(h:qv5 l):ItsB (jw l):=za0 h.lb h.li
theorem qv5.txt{l:qs}(h:qv5 l):(qsz l).length<=1000000000000:=q79 h.lb h.li
end Go.Proofs.YtlekheifonaipaaGreatDoor
namespace Go.Av
open Go Go.RowKit
def qkp(w:World):Gh:=⟨λk=>match w.heap[k]?with
 |some (.cells c _ _)=>some c.toList
 |_=>none,λ_=>⟨0,0,0,false⟩,0⟩
theorem qm9{w:World}{k:Nat}{c:Array Value}{T:TypeId}{fz:Nat×Nat}(h:w.heap[k]?=some (.cells c T fz)):(qkp w).pub k=some c.toList:=by simp only[qkp,h]
theorem zc9(w:World):zl w.heap.size w (qkp w) [] w:=by
 refine⟨⟨rfl,rfl,rfl,Qu _,λ_ _=>rfl⟩,Qu _,rfl,λb vs h=>?_,λo x hx=>by simp at hx,λo o' x x' _ hx=>by simp at hx⟩;simp only[qkp]at h;split at h
 .rename_i c T fz hc
  simp only[Qb]at h;subst h;exact⟨c,T,fz,hc,λi y hy=>by simpa using hy⟩
 .simp at h
theorem zjr{B0:Nat}{w0:World}{G:Gh}{S:List AObj}{w:World}(hA:zl B0 w0 G S w)(b:Nat)(vs:List Value)(h:G.pub b=some vs):∃ext,(qkp w).pub b=some (vs++ext):=by
 obtain⟨c,T,fz,hc,hv⟩:=hA.pub b vs h;refine⟨c.toList.drop vs.length,?_⟩;rw[qm9 hc];congr 1;apply List.ext_getElem?;intro i;by_cases hi:i<vs.length
 .rw[Ze hi]
  have:=hv i vs[i] (Qd hi);rw[Qd hi]
  simpa using this
 .rw[List.getElem?_append_right Om,List.getElem?_drop]
  congr 1;omega
theorem qri{B0:Nat}{w0:World}{G:Gh}{S:List AObj}{w:World}(hA:zl B0 w0 G S w){x:AV}{v:Value}(hp:Pure x)(h:Rel G x v):Rel (qkp w) x v:=hp G _ v (zjr hA) h
theorem zjs{B0:Nat}{w0:World}{G:Gh}{S:List AObj}{w:World}(hA:zl B0 w0 G S w){sz:Nat}{T:TypeId}{xs:List AV}{c:AV}{v:Value}(hx:∀x∈xs,qis x)(ho:OwnS S sz T xs c)(h:Rel G c v):Rel (qkp w) (.sl sz xs none) v:=by
 rcases ho with⟨rfl,hn⟩|⟨o,ver,cap,pad,rfl,h1,h2,h3,h4,h5⟩
 .obtain⟨base,rfl⟩:=hn.val G v h
  exact .sl0 sz none base 0 nofun
 .obtain⟨g0,g1,g2,g3,cs,g4,g5,g6⟩:=hA.ob o _ h1
  cases h with
  |os _ _ _ _ b _ hn hv hb=>
   have hb:=hb g1;subst hb;have o8:=zv h3;refine .sl sz xs none _ 0 _ cs.toList (qm9 g4) h3 ?_ (λi x y i4 hy=>?_) nofun h4
   .have hc:cs.toList.length=cs.size:=rfl
    rw[Zv,hc,<-g5,Qi];omega
   .rw[Zv]at hy
    have hi:=lt_of_getElem? i4;refine qri hA ?_ (g6 i x y (by rw[Ze hi];exact i4) (by simpa using hy));obtain⟨a,ha,hxa⟩:=List.mem_flatMap.1 (Qq i4);exact hx a ha x hxa
section
variable {E : Env}
theorem ze9(hok:qv3 E){f:FuncId}{sz:Nat}{T T1:TypeId}{xs ls args:List AV}{cs vs:List SV}{x:Value}{r:SV}(hr:∀ρ,r.ev ρ=.v x)(sr:∀ρ,SV.evs ρ cs=ls)(hvs:∀ρ,SV.evs ρ vs=args)(hx:∀x∈xs,qis x)(hl:∀x∈ls,Pure x)(ha:∀x∈args,Pure x)
  (h:∀S,qp E f (.pp (.sl sz xs none::ls)::args) S λr S'=>r=.v x∧S'=S):
  vb E f (.bx 0 0::vs) 2 (hpF [(0,some (.cells T (.tp 1::cs))),(1,some (.own sz T1 xs))]) ⟨r,kr [(0,some (SR.cells T (.tp 1::cs))),(1,some (.own sz T1 xs))],[(0,some (.cells T (.tp 1::cs))),(1,some (.own sz T1 xs))]++vw [(0,some (SR.cells T (.tp 1::cs))),(1,some (.own sz T1 xs))],2⟩:=λρ S hS=>by
 simp only[wc]at hS;obtain⟨o,ver,hb,hSo,cj⟩:=hS.ok 0 _ rfl;have bz:OwnS S sz T1 xs (ρ 1):=hS.ok 1 _ rfl;have e:SV.evs ρ (.bx 0 0::vs)=.bx o ver 0::args:=by simp only[SV.evs,SV.ev,hb,bxAt,hvs]
 have e1:SV.evs ρ (.tp 1::cs)=ρ 1::ls:=by simp only[SV.evs,SV.ev,qsw bz,sr]
 rw[e1]at hSo;rw[e];refine⟨λB0 w0 G vals w hL hA hR=>?_⟩;obtain⟨g0,g1,g2,g3,c,g4,g5,g6⟩:=hA.ob o _ hSo
 have pz:RelL (qkp w) (.pp (.sl sz xs none::ls)::args) vals:=by
  refine⟨hR.1,λi a y ha' hy=>?_⟩
  cases i with
  |zero=>
   simp only[Qr,Qb]at ha';subst ha';have h0:=hR.2 0 _ y rfl hy
   cases h0 with
   |bx _ _ _ b hn hv gb=>
    have gb:=gb g1;subst gb;refine .pp _ _ 0 c.toList (qm9 g4) (by have hc:c.toList.length=c.size:=rfl;rw[Zv,hc,<-g5];exact Qu _) λj a z hj hz=>?_;rw[Zv]at hz;have hz:c[j]?=some z:=by simpa using hz
    cases j with
    |zero=>
     simp only[Qr,Qb]at hj;subst hj
     exact zjs hA hx bz (g6 0 _ z rfl hz)
    |succ j=>
     rw[Qg]at hj
     exact qri hA (hl a (Qq hj)) (g6 (j+1) a z (by rw[Qg];exact hj) hz)
  |succ i=>
   rw[Qg]at ha';exact qri hA (ha a (Qq ha')) (hR.2 (i+1) a y (by rw[Qg];exact ha') hy)
 refine((h []).run w.heap.size w (qkp w) vals w (hok B0 w0 w hL hA.below hA.hB) (zc9 w) pz).mono ?_;rintro en w' ⟨v,G',r',st',rfl,hG,hA',i6,rfl,rfl⟩
 cases i6
 refine⟨_,G,_,S,rfl,.refl G,hA.fresh hA'.below,.v x,ρ,(hr ρ).symm,λ_ _=>rfl,?_,Qu _,λ_ _ _=>rfl,λk q hk o ho=>?_⟩
 .simp only[wc,qee]
  exact hS
 .simp only[wc,qee]at hk⊢
  exact .inr ⟨k,q,hk,ho⟩
end
end Go.Av
namespace Go.Av
open Go Go.RowKit
def q8g(E:Env)(N:Nat)(l:List Oper):Nat->List Oper->(Conf->Prop)->Conf->Prop
 |_,[],K,C=>K C
 |i,o::r,K,⟨sl,hp,nx⟩=>LocK E N l o nx sl (hpF hp) (gdW (isGd i l) (fcE (qxw sl hp nx o.dst (q8g E N l (i+1) r K))))
theorem q2z{E:Env}{rd:Option Nat}{N:Nat}{l:List Oper}{B:Bs}{K:Conf->Prop}:∀{r:List Oper}{i:Nat}{C:Conf}{s:AS},q8g E N l i r K C->SatC B C s->AOps E rd N l.toArray r (λs'=>∃C',K C'∧SatC B C' s') s
 | [],_,C,s,h,hs=>qh ⟨C,h,hs⟩
 |o::r,i,⟨sl,hp,nx⟩,s,h,hs=>by
  obtain⟨e,hL,h⟩:=h.ex;obtain⟨e,hL,h⟩:=q5u hL h;rw[q5h]at h;obtain⟨hw,h⟩:=qvc h;obtain⟨t,S,df⟩:=s;obtain⟨ρ,m8,hR⟩:=hs;simp only at m8 hR;refine hL _ rd _ r ρ t S hR.sl (hR.hp.res _) λρ' S' hp=>q2z h ⟨ρ',?_,?_⟩
  .have:=m8.step (d:=o.dst) hR.hp hw hp
   cases hd:o.dst with
   |none=>rw[hd]at this;exact this
   |some d=>rw[hd]at this;exact this
  .have:=hR.step (d:=o.dst) hw hp
   cases hd:o.dst with
   |none=>rw[hd]at this;exact this
   |some d=>rw[hd]at this;exact this
section
variable {E : Env} {rd : Option Nat} {N : Nat} {B : Bs} {C : Conf} {Q : Exit → Conf → Prop}
theorem qim{id:Nat}{ops:Array Oper}(h:q8g E N ops.toList 0 ops.toList (Q .normal) C):Sm E rd N B (.region id ops false) Q C:=⟨λs hs=>by
 have e:ops=ops.toList.toArray:=Sx
 rw[e]
 exact qf (q2z h hs)⟩
theorem qsy(bxs:List Nat){id:Nat}{ops:Array Oper}(h:q3y E N ops.toList bxs 0 ops.toList (Q .normal) C):Sm E rd N B (.region id ops false) Q C:=⟨λs hs=>by
 have e:ops=ops.toList.toArray:=Sx
 rw[e]
 exact qf (qv2 h hs)⟩
def wpD(E:Env)(rd:Option Nat)(N:Nat)(B:Bs):Code->(Exit->Conf->Prop)->Conf->Prop
 |.skip,Q,C=>Q .normal C
 |.seq x y,Q,C=>wpD E rd N B x (zed (wpD E rd N B y Q) Q) C
 |.cond c x y,Q,C=>(match sval N C.sl c with
  |some v=>wayW (wpD E rd N B x Q C) (wpD E rd N B y Q C) v
  |none=>False)
 |.block id c,Q,C=>wpD E rd N B c (qoz id Q) C
 |.exit id,Q,C=>Q (.exit id) C
 |.ret,Q,C=>Q .ret C
 |c,Q,C=>Sm E rd N B c Q C
theorem qd5:∀{c:Code}{Q:Exit->Conf->Prop}{C:Conf},wpD E rd N B c Q C->Sm E rd N B c Q C
 |.skip,Q,C,h=>⟨λs hs=>qv ⟨C,h,hs⟩⟩
 |.exit id,Q,C,h=>⟨λs hs=>z7 ⟨C,h,hs⟩⟩
 |.ret,Q,C,h=>⟨λs hs=>qu ⟨C,h,hs⟩⟩
 |.seq x y,Q,C,h=>zbp (qvn (qd5 (c:=x) h) λe C' hq=>by
   cases e with
   |normal=>exact qd5 (c:=y) hq
   |_=>exact hq)
 |.block id c,Q,C,h=>q2n (qd5 (c:=c) h)
 |.cond c x y,Q,C,h=>by
  simp only[wpD]at h;split at h
  .rename_i v hv
   exact q7z hv (q2x (λh=>qd5 (c:=x) h) (λh=>qd5 (c:=y) h) h)
  .exact h.elim
 |.region id ops b,Q,C,h=>by cases b<;>exact h
 |.loop c,Q,C,h=>h
 |.rangeFunc _ _ _ _,Q,C,h=>h
 |.scope _,Q,C,h=>h
 |.label _,Q,C,h=>h
 |.goto _,Q,C,h=>h
 |.refuse _,Q,C,h=>h
end
def arrT:Option TypeDesc->Option (Nat×TypeId)
 |some (.array n e)=>some (n,e)
 |_=>none
theorem zl0{u:Option TypeDesc}{n:Nat}{e:TypeId}(h:arrT u=some (n,e)):u=some (.array n e):=by
 unfold arrT at h;split at h
 .simp only[Qb,Qh]at h
  obtain⟨rfl,rfl⟩:=h;rfl
 .simp at h
section
variable {E : Env} {rd : Option Nat} {N : Nat} {ops : Array Oper} {K : AS → Prop} {s : AS} {rest : List Oper} {d : Option Tmp} {T : TypeId} {p : String} {af : Array Edge}
theorem q8l{x y:Operand}{t e:TypeId}{n i sz:Nat}{agg:Bool}{cs:List AV}{k:IntKind}(hx:ql N s x=.pp cs)(hy:ql N s y=.v (.int k (i:Int)))(hu:E.P.underlying t=some (.array n e))(ht:tyOf E.P e=some (sz,agg))(hi:i<n)(hc:i*sz<=cs.length)
  (h:AOps E rd N ops rest K (s.put d (.pp (cs.drop (i*sz))))):AOps E rd N ops (⟨d,.indexAddr t x y,T,p,af,none⟩::rest) K s:=by
 refine q9 rfl (q8 nofun λB0 w0 G a w _ hI=>?_);have he:=hI.eval_of hx;have dj:=hI.evalv hy;generalize hv:a.eval x=v at he
 cases he with
 |pp _ b q pub hp d5 i6=>
  refine⟨.pointer (some ⟨b,q+i*sz,none⟩),w,G,_,s.st,?_,.refl G,hI.agree,?_,h⟩
  .generalize a.eval=ρ at hv dj
   simp only[execOp,hv,dj];simp[Instr.indexAt,Instr.sureAddr,asIntOf,run_underlying hu,hi,(vp ht w).1,Addr.add_lit]
  .exact .pp _ b (q+i*sz) pub hp So λj x y h1 h2=>i6 (i*sz+j) x y (by simpa using h1) (by rw[<-h2];congr 1;omega)
theorem q8k{t:TypeId}{parts:Array (Nat×Operand)}{zs cs:List AV}{sz:Nat}(hz:qh8 E.P t=some zs)(hp:qnk E.P t=some sz)(hf:qdb (λi=>some (i*sz,sz)) zs (vz N s parts)=some cs)
  (h:AOps E rd N ops rest K (s.put d (.ag cs))):AOps E rd N ops (⟨d,.build t parts,T,p,af,none⟩::rest) K s:=by
 refine q9 rfl (q8 nofun λB0 w0 G a w _ hI=>?_);obtain⟨len,e,i,hu,hi,rfl⟩:=qtd hp;obtain⟨z,a8,hr⟩:=qmw hz w;obtain⟨c',h1,h2⟩:=qih (λk=>some (k*i.size,i.size)) (vz N s parts) (parts.toList.map λx=>(x.1,a.eval x.2)) zs z.cells cs (by simp[vz]) (qjw hI parts) (hr G) hf
 have dn:∃ti,E.P.info? t=some ti∧ti.zero=some z:=by
  unfold zeroValue at a8;simp[typeInfo]at a8
  cases hti:E.P.info? t with
  |none=>simp[hti]at a8
  |some ti=>
   simp[hti]at a8
   cases htz:ti.zero with
   |none=>simp[htz]at a8
   |some y=>simp[htz]at a8;exact⟨ti,rfl,by rw[htz,a8]⟩
 obtain⟨ti,g1,g2⟩:=dn;refine⟨.agg c',w,G,.ag cs,s.st,?_,.refl G,hI.agree,.ag _ _ h2.1 h2.2,h⟩;generalize a.eval=ρ at h1;simp[execOp,Instr.build,run_underlying hu,zeroValue,typeInfo,g1,g2,sizeOf,hi,h1]
end
section
variable {E : Env} {N : Nat} {ops : Array Oper} {nx : Nat} {sl : List (Nat × SV)} {H : Nat → Option SR} {k : Ef → Prop} {d : Option Tmp} {T : TypeId} {p : String} {af : Array Edge}
theorem qog{t e:TypeId}{x y:Operand}{n i sz:Nat}{agg:Bool}{cs:List AV}{kd:IntKind}{v:SV}(hx:sval N sl x=some (.a (.pp cs)))(hy:sval N sl y=some v)(hv:qgb v=some (kd,(i:Int)))(hu:arrT (E.P.underlying t)=some (n,e))(ht:tyOf E.P e=some (sz,agg))(hi:(Yd i n&&Xw (i*sz) cs.length)=true)
  (h:k ⟨.a (.pp (cs.drop (i*sz))),[],[],nx⟩):∃e,Loc E N ops ⟨d,.indexAddr t x y,T,p,af,none⟩ nx sl H e∧k e:=by
 simp only[Qp]at hi;exact⟨_,js (v:=.a (.pp (cs.drop (i*sz)))) λdf rd K rest ρ t' S hs hk=>q8l (q7 hs hx) ((q7 hs hy).trans (qc6 hv ρ)) (zl0 hu) ht (vi hi.1) (Qw hi.2) hk,h⟩
theorem q0q{t:TypeId}{parts:Array (Nat×Operand)}{zs:List AV}{sz:Nat}{ps:List (Nat×SV)}{cs:List SV}(hz:qh8 E.P t=some zs)(hp:qnk E.P t=some sz)(hs:qpv N sl parts.toList=some ps)(hf:qsn (λi=>some (i*sz,sz)) (nfs zs) ps=some cs)
  (h:k ⟨.ag cs,[],[],nx⟩):∃e,Loc E N ops ⟨d,.build t parts,T,p,af,none⟩ nx sl H e∧k e:=by
 refine⟨_,js (v:=.ag cs) λdf rd K rest ρ t' S ho hk=>q8k hz hp (cs:=SV.evs ρ cs) ?_ hk,h⟩;have:=quy ρ _ _ _ _ hf;rw[qjv]at this;unfold vz;rw[qin ho hs];exact this
end
end Go.Av
namespace Go.Pl
open Go Go.Proofs Go.Av Go.Proofs.YtlekheifonaipaaGreatDoor
theorem q1m{l:qs}{id:Int}(h:atF l id<0):qau l id=[]:=by
 by_cases h1:1<=id
 .rcases qu3 l id with⟨_,g⟩|⟨i,e,g,_⟩
  .exact g h1
  .omega
 .unfold qau
  have:(stzF l.ents).find? (λs=>decide (s.1=id))=none:=by
   rw[Xp];intro s hs;unfold stzF at hs;obtain⟨e,he,rfl⟩:=Qo.1 hs;have:=(Zl.1 he).2;simp only[decide_eq_true_eq]at this⊢;omega
  rw[this];rfl
theorem qk7:∀(b:List qm)(n:Nat)(l:qs),LB n l->n+b.length<900000->LB (n+b.length) (je b l)
 | [],n,l,h,_=>h
 |x::r,n,l,h,hs=>by
  have:=qk7 r (n+1) (oneF l x).2.2 (qk2 h (by simp at hs;omega) x) (by simp at hs;omega);rw[show n+1+r.length=n+(x::r).length by simp;omega]at this;exact this
theorem qug:∀(b:List qm)(l:qs),LI l->LI (je b l)
 | [],l,h=>h
 |x::r,l,h=>qug r _ (zbe h x)
theorem q35:∀(b:List qm)(n:Nat)(l:qs),LM l->LB n l->n+b.length<900000->LM (je b l)
 | [],n,l,h,_,_=>h
 |x::r,n,l,h,hB,hs=>q35 r (n+1) _ (qzu h hB.nx0 x) (qk2 hB (by simp at hs;omega) x) (by simp at hs;omega)
theorem qvu:∀(b:List qm)(l:qs),qeq b l->∀(i:Nat)(x:qm),b[i]?=some x->(oneF (je (b.take i) l) x).2.1=.no
 | [],l,_,i,x,h=>by simp at h
 |y::r,l,h,0,x,hx=>by
  simp only[Qr,Qb]at hx;subst hx
  exact h.1
 |y::r,l,h,i+1,x,hx=>qvu r _ h.2 i x (by simpa using hx)
theorem qv9{b:List qm}{l:qs}{i:Nat}{x:qm}(h:b[i]?=some x):je (b.take (i+1)) l=(oneF (je (b.take i) l) x).2.2:=by
 rw[Za,h];exact qv8 _ _ _
theorem qrb{x:qm}(h:gErr x=.no):x.kind=1∨x.kind=2∨x.kind=3:=by
 unfold gErr at h;split at h
 .rename_i h2;exact .inr (.inl h2)
 .split at h
  .rename_i h1;rcases h1 with h1|h1
   .exact .inl h1
   .exact .inr (.inr h1)
  .simp at h
theorem zbf{l:qs}{x:qm}(hn:GN l)(h:(oneF l x).2.1=.no)(hk:gErr x=.no):(x.kind=3->0<(oneF l x).1)∧(x.kind≠3->(oneF l x).1=0):=by
 have bt:=hn.nx;rcases qmp hn h with⟨h1,h2,_⟩|⟨h1,h2,_⟩|⟨h1,h2,h3,_⟩
 .exact⟨λh=>by omega,λ_=>h2⟩
 .exact⟨λh=>by omega,λ_=>h2⟩
 .refine⟨λ_=>by omega,λh=>?_⟩
  rcases qrb hk with g|g|g
  .exact absurd g h1
  .exact absurd g h2
  .exact absurd g h
@[reducible] def zd9 (x : qm) (s : qit) : AV := .ag [Iv s.kind, Iv s.id, jd x.fields, jd s.was, Iv s.ahead]
def qcy(b:List qm)(l:qs):List AV:=(Xx b.length).map λi=>match b[i]?with
 |some x=>zd9 x (yi (je (b.take i) l) x)
 |none=>zm
theorem q2p(b:List qm)(l:qs):(qcy b l).length=b.length:=by simp[qcy]
theorem qr9{b:List qm}{l:qs}{i:Nat}{x:qm}(h:b[i]?=some x):(qcy b l)[i]?=some (zd9 x (yi (je (b.take i) l) x)):=by
 have hi:=(Qm.1 h).1;unfold qcy;rw[Ql,List.getElem?_range hi];simp only[Zy,h]
theorem zea{b:List qm}{l:qs}{i:Nat}{x:qm}(h:b[i]?=some x):(qcy b l).take (i+1)=(qcy b l).take i++[zd9 x (yi (je (b.take i) l) x)]:=by
 rw[Za,qr9 h];rfl
theorem q9y(b:List qm)(l:qs):∀x∈qcy b l,qis x:=λy hy=>by
 unfold qcy at hy;obtain⟨i,_,rfl⟩:=Qo.1 hy;split
 .intro z hz
  simp only[AV.cells,Qe,Qt,or_false]at hz;rcases hz with rfl|rfl|rfl|rfl|rfl
  .exact qr _
  .exact qr _
  .exact qa5 _
  .exact qa5 _
  .exact qr _
 .intro z hz
  simp only[AV.cells,zm,Qe,Qt,or_false]at hz;subst hz;exact qr _
theorem qn7{b:List qm}{l:qs}{i:Nat}{x:qm}(h:b[i]?=some x):((w9 b l).take (i+1)).reverse=yi (je (b.take i) l) x::((w9 b l).take i).reverse:=by
 rw[Za,qys b l i x h];simp
end Go.Pl
namespace Go.Proofs.YtlekheifonaipaaGreatDoor
open Go Go.Av Go.RowKit Go.Proofs Go.Pl
theorem zi9(l:qs)(id:Int)(st:List AObj)(hl:l.ents.length<1000000)(hI:LI l):qp E 87 [v6 l,Iv id] st λr st'=>r=Iv (qbp l id)∧st'=st:=by
 refine ze [.a (v6 l),.i id] (qr _) Tryz.func87 rfl rfl (λ_=>rfl) rfl λS0=>?_;have hz:=λst=>zdc l st hl λe he=>by have:=(hI e he).2;omega
 have hp:=λst=>zjz l id st hl;rcases qs7 l id with⟨h1,h2⟩|⟨i,s,h1,h2,h3⟩
 .rw[h2]
  generalize qf4 l id=p at hp h1;apply qd [];repeat' (first|apply Qa|(intro h;try exact cDd)|exact⟨Tryz.call129⟩|refine cpe hz ?_|exact⟨Tryz.call130⟩|refine cpe hp ?_|exact cSd|apply qb []|refine exr ?_|refine qe ?_)
 .rw[h3]
  rw[h1]at hp;have hx:((stzF l.ents).map stzA)[i]?=some (stzA s):=by rw[Ql,h2];rfl
  have fc:=lt_of_getElem? h2;have fm:=qpx l.ents;apply qd [];repeat' (first|apply Qa|(intro h;try exact cDd)|exact⟨Tryz.call129⟩|refine cpe hz ?_|exact⟨Tryz.call130⟩|refine cpe hp ?_|(refine Qc (i) ⟨Om,_,hx,?_⟩)|exact cSd|apply qb []|refine exr ?_|refine qe ?_)
theorem q82(l:qs)(id:Int)(hl:l.ents.length<1000000)(hI:LI l):vb E 87 [.bx 0 0,.i id] 2 (hpF (lstH 1 l)) ⟨.i (qbp l id),kr (lstH 1 l),lstH 1 l++vw (lstH 1 l),2⟩:=
 ze9 E_ok (x:=.int .i64 (qbp l id)) (xs:=l.ents.map entA) (ls:=[Iv l.next,Iv l.many]) (args:=[Iv id]) (cs:=[.i l.next,.i l.many]) (vs:=[.i id]) (λ_=>rfl) (λ_=>rfl) (λ_=>rfl)
  (λx hx=>by obtain⟨e,_,rfl⟩:=Qo.1 hx;exact qoq e)
  (λx hx=>by simp only[Qe,Qt,or_false]at hx;rcases hx with rfl|rfl <;>exact qr _)
  (λx hx=>by simp only[Qe,Qt,or_false]at hx;subst hx;exact qr _)
  λS=>zi9 l id S hl hI
theorem zf7(l:qs)(id:Int)(hl:l.ents.length<1000000)(hI:LI l):∃v:AV,((v=zm∧qau l id=[])∨v=jd (qau l id))∧vb E 88 [.bx 0 0,.i id] 2 (hpF (lstH 1 l)) ⟨.tu [.a v,.b (decide (0<=atF l id))],kr (lstH 1 l),lstH 1 l++vw (lstH 1 l),2⟩:=by
 have h1:=qsk l id hl;by_cases h:atF l id<0
 .refine⟨zm,.inl ⟨rfl,q1m h⟩,?_⟩
  rw[decide_eq_false (by omega:¬0<=atF l id)];refine xl [.bx 0 0,.i id] (lstH 1 l) 2 (.tu [.a zm,.b false]) (lstH 1 l) 2 Tryz.func88 rfl rfl rfl rfl λS F ρ=>?_;generalize atF l id=n at *;apply qd [];repeat' (first|apply Qa|(intro h;try exact cDd)|exact⟨Tryz.call131⟩|(refine jn h1 ?_)|exact cSd|apply qb []|refine exr ?_|refine qe ?_)
 .obtain⟨i,e,g1,g2,g3⟩:∃(i:Nat)(e:EntV),atF l id=(i:Int)∧l.ents[i]?=some e∧qau l id=e.x.fields:=by
   rcases qu3 l id with⟨g,_⟩|g
   .exact absurd g h
   .exact g
  refine⟨jd (qau l id),.inr rfl,?_⟩;rw[g3,decide_eq_true (by omega:0<=atF l id)];refine xl [.bx 0 0,.i id] (lstH 1 l) 2 (.tu [.a (jd e.x.fields),.b true]) (lstH 1 l) 2 Tryz.func88 rfl rfl rfl rfl λS F ρ=>?_;rw[g1]at h1;have hm:(l.ents.map entA)[i]?=some (entA e):=by rw[Ql,g2];rfl
  have fc:=lt_of_getElem? hm;have gr:=λst=>qhs e.x.fields st (by have:=(hI e (Qq g2)).2;omega);apply qd [];repeat' (first|apply Qa|(intro h;try exact cDd)|exact⟨Tryz.call131⟩|(refine jn h1 ?_)|(refine qgn (i:=i) rfl rfl rfl rfl rfl rfl Om ?_)|(refine qik (i:=i) (j:=2) rfl rfl rfl rfl hm rfl rfl ?_)|exact⟨Tryz.call80⟩|refine cpe gr ?_|exact cSd|apply qb []|refine exr ?_|refine qe ?_)
end Go.Proofs.YtlekheifonaipaaGreatDoor
namespace Go.Av
open Go Go.RowKit
section
variable {α : Type} [DecidableEq α] {kd : TypeDesc} {key : α → Value}
theorem q1z(hs:∀a b,Instr.sameNow kd (key a) (key b)=some (decide (b=a)))(s:α):∀(L:List (α×Int))(i:Nat)(r:Option (Nat×Value)),qdc kd (key s) (L.map (kvM key)) i=some r->r.isSome=L.any λq=>decide (q.1=s)
 | [],i,r,h=>by
  simp only[List.map_nil,qdc,Qb]at h;subst h
  rfl
 |q::L,i,r,h=>by
  rw[Zp,qdc]at h;have e:Instr.sameNow kd (key s) (kvM key q).1=some (decide (q.1=s)):=hs s q.1;rw[e]at h;rw[Zo];by_cases hq:q.1=s
  .rw[decide_eq_true hq]at h⊢
   simp only[Qb]at h;subst h;rfl
  .rw[decide_eq_false hq]at h⊢
   rw[Xk];exact q1z hs s L (i+1) r h
variable {E : Env} {N : Nat} {ops : Array Oper} {nx : Nat} {sl : List (Nat × SV)} {H : Nat → Option SR} {k : Ef → Prop} {d : Option Tmp} {T : TypeId} {p : String} {af : Array Edge}
theorem q1y{t kt vt:TypeId}{x y:Operand}{b:Nat}{L:List (α×Int)}{v:SV}{s:α}(hs:∀a b,Instr.sameNow kd (key a) (key b)=some (decide (b=a)))(hx:sval N sl x=some (.tp b))(hH:H b=some (.obj (mapP (L.map (kvM key)))))(hy:sval N sl y=some v)(hv:∀ρ,v.ev ρ=.v (key s))
  (hu:E.P.underlying t=some (.map kt vt)) (hk:E.P.underlying kt=some kd) (s7:mkey kd (key s)=true) (hz:(E.P.info? vt).bind (λi=>i.zero)=some (.int .i64 0))
  (h:k ⟨.tu [.i (getM s L),.b (L.any λq=>decide (q.1=s))],[b],[],nx⟩):∃e,Loc E N ops ⟨d,.lookup t x y true,T,p,af,none⟩ nx sl H e∧k e:=by
 obtain⟨r,h1,h2,_⟩:=qzq hs s 0 L [];rw[<-q1z hs s L 0 r h1]at h;exact zj4 hx hH hy hv hu hk s7 h1 hz h2 h
end
end Go.Av
namespace Go.Proofs.YtlekheifonaipaaGreatDoor
open Go Go.Av Go.RowKit Go.Proofs Go.Pl
theorem q1n{text:qa}(b:jy)(st:List AObj)(hB:BkB b)(hT:xz text b):qp E 26 [qas b] st λr st'=>r=yh (qel b)∧st'=st:=by
 refine ze [.a (qas b)] (qcr _) Tryz.func26 rfl rfl (λ_=>rfl) rfl λS0=>?_;have d7:=λst=>zf1 b.gen st;have o0:(b.ends.map λx=>Iv x).length=b.ends.length:=Sx
 have nq:b.ends.length<=14000:=by
  have:=hB.len;rw[hT.ends,qlc];omega
 have hs:(qel b).map (λx=>Iv x)=[Iv ((wa b.gen).length+b.base.length:Nat)]++b.ends.map λx=>Iv x:=rfl;have hhl:=q5w b.gen;have cz:=hB.base;generalize(wa b.gen).length=m at *;apply qd [10];repeat' (first|apply Qa|(intro h;try exact cDd)|exact⟨Tryz.call56⟩|refine cpe d7 ?_|exact cSd|apply qb [10]|refine exr ?_|refine qe ?_)
 all_goals first|rfl|exact .inl (by simp[SV.evs];omega)|(refine congrArg (λz=>AV.sl 1 z none) ?_;rw[hs];simp[SV.evs,SV.ev];done)
theorem zjd(n:Nat)(l:qs)(b:List qm)(st:List AObj)(hB:LB n l)(hn:n+40<900000)(hI:LI l)(hE:∀x∈b,EdB x)(hl:b.length<=40)(hg:∀x∈b,gErr x=.no)(hN:GN l)(ht:qeq b l):qp E 43 [v6 l,zh b] st λr st'=>r=.sl 5 (qcy b l) none∧st'=st:=by
 refine qpn [.a (v6 l),.a (zh b)] (qbi (q9y b l)) Tryz.func43 rfl rfl (λ_=>rfl) rfl λS0=>?_;have sq:=za3 l (by have:=hB.len;omega);have o0:(b.map zt).length=b.length:=Sx
 have hxl:=q2p b l;apply qd [];repeat' (first|apply Qa|(intro h;try exact cDd)|exact⟨Tryz.call83⟩|(refine jn sq ?_)|exact cSd|apply qb []|refine exr ?_|refine qe ?_)
 refine zw (X:=Nat×qs) (λ(k,q)=>⟨[(5,.bx 0 0),(6,.tp 2),(14,.a (zh b)),(15,.i b.length),(16,.i k)],[(0,some (.cells 166 [.tp 1,.i q.next,.i q.many])),(1,some (.own 4 168 (q.ents.map entA))),(2,some (.tip 5 110 ((qcy b l).take k)))],3⟩)
  (λ(k,q)=>k<=b.length∧q=je (b.take k) l) (λ(k,q)=>b.length-k) (0,l) ⟨Om,rfl⟩ ?_ ?_
 .skip
  repeat' (first|apply Qa|(intro h;try exact cDd)|exact cSd|apply qb []|refine exr ?_|refine qe ?_)
  all_goals first|rfl|(simp;done)
 .rintro⟨k,q⟩ ⟨hk,hq⟩
  by_cases e9:k<b.length
  .have hx:b[k]?=some b[k]:=Qd e9
   have g9:(b.map zt)[k]?=some (zt b[k]):=by rw[Ql,hx];rfl
   have hxE:=hE b[k] (Qs e9);have lg:=hg b[k] (Qs e9);have hxf:=(qfe lg).1;have hlk:(b.take k).length=k:=So
   have hqB:=qk7 (b.take k) n l hB Om;rw[hlk,<-hq]at hqB;have hqI:=qug (b.take k) l hI;have hqN:=qoc (b.take k) l hN;have rm:=qvu b l ht k _ hx;have e7:=zea (l:=l) hx;have haf:=qv9 (l:=l) hx;rw[<-hq]at hqI hqN rm e7 haf;have fm:((qcy b l).take k).length=k:=by rw[List.length_take,hxl];omega
   clear hq;generalize b[k]=x at hx g9 hxE lg hxf rm e7 haf;have hq1:=hqB.len;have hah:=q82 q x.id Om hqI;have ft:=zf7 q x.id Om hqI;have gv:=zfo (n+k) q x hqB hxE.keys Om;obtain⟨m1,m2⟩:=zbf hqN rm lg;unfold yi at e7;obtain⟨v,hv,ft⟩:=ft;generalize qau q x.id=fl at *;generalize qbp q x.id=ah at *;generalize hoo:oneF q x=o at *;obtain⟨id,e,q'⟩:=o;dsimp only at *;subst rm;rcases hv with⟨rfl,rfl⟩|rfl
   all_goals
    by_cases h0:0<id
    all_goals
     first|rw[if_pos h0]at e7|rw[if_neg h0]at e7
     apply qd [];repeat' (first|apply Qa|(intro h;try exact cDd)|(refine Qc (k) ⟨Om,_,g9,?_⟩)|exact⟨Tryz.call87⟩|(refine Qc _ ⟨qsm hah ⟨rfl,rfl,trivial⟩,?_⟩)|exact⟨Tryz.call88⟩|(refine jn ft ?_)|exact⟨Tryz.call84⟩|(refine jn gv ?_)|(refine Qc (k+1,q') ⟨⟨Om,haf.symm⟩,by simp only;omega,?_⟩)|exact cSd|apply qb []|refine exr ?_|refine qe ?_)
     all_goals first|rfl|exact e7.symm|(simp;omega)
  .have e9:k=b.length:=by omega
   subst e9;have hfull:(qcy b l).take b.length=qcy b l:=Xf Om;apply qd [];repeat' (first|apply Qa|(intro h;try exact cDd)|exact cSd|apply qb []|refine exr ?_|refine qe ?_)
   all_goals first|rfl|(simp[hfull];done)
def qoj(xs:List AV):Nat->Option ((SV×SV)×Nat)
 |0=>none
 |k+1=>match xs[k]?with
  |some x=>some ((.i k,.a x),k)
  |none=>none
theorem qwp{xs:List AV}{k j:Nat}{v:SV×SV}(h:qoj xs k=some (v,j)):∃x,k=j+1∧xs[j]?=some x∧v=(.i j,.a x):=by
 cases k with
 |zero=>simp[qoj]at h
 |succ k=>
  rw[qoj]at h;split at h
  .rename_i x hx
   simp only[Qb,Qh]at h;obtain⟨rfl,rfl⟩:=h;exact⟨x,rfl,hx,rfl⟩
  .simp at h
theorem zcj{xs:List AV}{k:Nat}(h:qoj xs k=none)(hk:k<=xs.length):k=0:=by
 cases k with
 |zero=>rfl
 |succ k=>
  rw[qoj,Qd Om]at h;simp at h
theorem zin(xs:List AV)(hl:xs.length<1000000)(hp:∀x∈xs,∃a b c d e,x=.ag [a,b,c,d,e]):ItC2 86 108 [.sl 5 xs none] (evY2 (qoj xs)) xs.length:=⟨λo kb n m I D S hm hn h0 hI e7 hY=>by
 refine qq Tryz.func86 rfl (Qw rfl) ?_;have hb:=hI _ S h0;repeat' (first|apply qo|apply qy|apply qf|apply qh|apply qg|(apply jk;rfl;rfl;rfl;rfl)|(apply wx;rfl;rfl;exact q6 Om Om)|(apply qbk;rfl;rfl;exact hb;rfl;rfl))
 refine jr (λ(k:Nat)s=>∃S',I k S'∧k<=xs.length∧StA [(0,.yd o),(1,.bx kb 0 0),(3,Iv ((k:Int)-1))] (S'++[]) [] s) (λk=>k) xs.length ⟨_,by rw[Qv];exact h0,Om,qn6 (z6 ⟨rfl,rfl,rfl,trivial⟩)⟩ ?_;rintro k _ ⟨S',hi,hk,t,rfl⟩;rw[Qv];have gb:=hI _ _ hi
 cases k with
 |zero=>
  repeat' (first|apply qo|apply qf|apply qh|apply qj|(apply qt;rfl;rfl;rfl)|(apply qc;rfl;apply vq;exact cAo)|apply z7)
  exact qn rfl (y3 rfl) (.inl ⟨0,rfl,hi⟩)
 |succ k=>
  have hx:xs[k]?=some xs[k]:=Qd Om;obtain⟨a,b,c,d,e,hxe⟩:=hp xs[k] (Qs Om);rw[hxe]at hx;rw[show(((k+1:Nat):Int)-1)=(k:Int)by omega];repeat' (first|apply qo|apply qy|apply qf|apply qh|apply qj|(apply qt;rfl;rfl;rfl)|(apply qc;rfl;apply va;exact cAo)|(apply jq;rfl;rfl;rfl)|apply qv|(apply vc;rfl;exact gb;rfl;rfl)|(apply kp (n:=k);(iterate 5 rfl);exact hx))
  apply qdf (o:=o) rfl;refine yz.mono (hY (k+1) (Iv k,.ag [a,b,c,d,e]) k _ [] hi (λj y hy=>by simp at hy) (by simp[evY2,qoj,hx,SV.ev])) ?_;rintro b S2 ⟨_,h2,h3⟩
  show AOps _ _ _ _ _ _ _
  cases b
  .skip
   repeat' (first|apply qh|(apply ja;rfl)|(apply qc;rfl;apply qi3;exact cRa)|apply qu)
   exact qn rfl (y3 rfl) (.inr (h3 rfl))
  .skip
   repeat' (first|apply qf|apply qh|apply qj|apply qg|(apply ja;rfl)|(apply qc;rfl;apply qi2;exact cRa)|(apply wx;rfl;rfl;exact q6 Om Om)|apply qv)
   exact⟨k,⟨_,h2 rfl,Om,qn6 (z6 ⟨rfl,rfl,congrArg (λn:Int=>Iv n) Om,trivial⟩)⟩,Om⟩⟩
theorem zl5(xs:List AV):vb E 42 [.a (.sl 5 xs none)] 0 (hpF []) ⟨.fn (.func 86) [] [.bx 0 0],kr [],[(0,some (.cells 108 [.a (.sl 5 xs none)]))]++vw [],1⟩:=by
 refine xl [.a (.sl 5 xs none)] [] 0 (.fn (.func 86) [] [.bx 0 0]) [(0,some (.cells 108 [.a (.sl 5 xs none)]))] 1 Tryz.func42 rfl rfl rfl rfl λS F ρ=>?_;apply qd [1];repeat' (first|apply Qa|(intro h;try exact cDd)|exact cSd|apply qb [1]|refine exr ?_|refine qe ?_)
@[reducible] def nmH (L : List (Int × Int)) : List (Nat × Option SR) := [(1, some (.obj (mapP (L.map (kvM keyI))))), (2, some (.cells 102 [.tp 1]))]
theorem zjc(id:Int)(L:List (Int×Int)):vb E 41 [.i id,.bx 2 0] 3 (hpF (nmH L)) ⟨.i (wd L id),kr (nmH L),nmH L++vw (nmH L),3⟩:=by
 refine xl [.i id,.bx 2 0] (nmH L) 3 (.i (wd L id)) (nmH L) 3 Tryz.func41 rfl rfl rfl rfl λS F ρ=>?_;unfold wd
 cases hb:(L.any λq=>decide (q.1=id))with
 |true=>
  rw[if_pos rfl];apply qd [];repeat' (first|apply Qa|(intro h;try exact cDd)|(refine q1y q7y rfl rfl rfl (λ_=>rfl) rfl rfl rfl rfl ?_)|exact absurd (h.symm.trans hb) (by decide)|exact cSd|apply qb []|refine exr ?_|refine qe ?_)
  all_goals first|assumption|rfl|(simp_all;done)
 |false=>
  rw[if_neg (by decide)];apply qd [];repeat' (first|apply Qa|(intro h;try exact cDd)|(refine q1y q7y rfl rfl rfl (λ_=>rfl) rfl rfl rfl rfl ?_)|exact absurd (h.symm.trans hb) (by decide)|exact cSd|apply qb []|refine exr ?_|refine qe ?_)
  all_goals first|assumption|rfl|(simp_all;done)
set_option maxHeartbeats 4000000 in
theorem zmn(l:qs)(b:List qm)(st:List AObj)(hB:LB 860000 l)(hM:LM l)(hI:LI l)(hN:GN l)(hG:GL l)(hE:∀x∈b,EdB x)(hl:b.length<1000000):qp E 20 [v6 l,zh b] st λr st'=>r=.tu [zh (if(doF l b).1=.no then qae l b else []),errA (doF l b).1]∧st'=st:=by
 refine ze [.a (v6 l),.a (zh b)] (ju (qa4 _) (ki _)) Tryz.func20 rfl rfl (λ_=>rfl) rfl λS0=>?_;have mc:=λst=>zcw 860000 l b st hB Om hE hl;unfold doA at mc
 cases mt:(doF l b).1 with
 |num m=>
  rw[mt]at mc;rw[if_neg Sx];apply qd []
  repeat' (first|apply Qa|(intro h;try exact cDd)|exact⟨Tryz.call39⟩|refine cpe mc ?_|exact cSd|apply qb []|refine exr ?_|refine qe ?_)
 |at' a m=>
  rw[mt]at mc;rw[if_neg Sx];apply qd []
  repeat' (first|apply Qa|(intro h;try exact cDd)|exact⟨Tryz.call39⟩|refine cpe mc ?_|exact cSd|apply qb []|refine exr ?_|refine qe ?_)
 |no=>
  rw[mt]at mc;rw[if_pos rfl];obtain⟨he,ht,ha⟩:=qp1 mt;obtain⟨p9,hb40,hg⟩:=qb0 he;have r9:=λst=>zjd 860000 l b st hB Om hI hE hb40 hg hN ht;have hdB:=qw2 hB Om b;have s6:qae l b=x8 (w9 b l).reverse [] (doF l b).2.1.next:=rfl;have hxl:=q2p b l
  have tj:=zin (qcy b l) Om λx hx=>by
   obtain⟨i,hi⟩:=List.getElem?_of_mem hx;have fc:=(Qm.1 hi).1;rw[hxl]at fc;rw[qr9 (Qd fc)]at hi;simp only[Qb]at hi;exact⟨_,_,_,_,_,hi.symm⟩
  rw[s6];generalize(doF l b).2.2=ids at mc;generalize(doF l b).2.1=d at *;have hdn:=λst=>zm3 d st;have hd0:=hdB.nx0;have hd1:=hdB.nx1;clear s6;apply qd [];repeat' (first|apply Qa|(intro h;try exact cDd)|exact⟨Tryz.call39⟩|refine cpe mc ?_|exact⟨Tryz.call40⟩|refine cpe hdn ?_|exact⟨Tryz.call43⟩|refine cpe r9 ?_|(refine znb ?_)|exact⟨Tryz.call42⟩|(refine jn (zl5 (qcy b l)) ?_)|exact cSd|apply qb []|refine exr ?_|refine qe ?_)
  refine q70 (X:=List qm×List (Int×Int)×Int) tj Tryz.call86 (λi v j h=>by obtain⟨x,_,_,rfl⟩:=qwp h;rfl) 5 6 [.a (.sl 5 (qcy b l) none)] (λ_=>rfl) [0,1,2,3,4,5]
   (λ(out,L,n)=>⟨[(9,.bx 0 0),(10,.bx 2 0),(11,.bx 3 0),(12,.bx 4 0),(32,.fn (.func 86) [] [.bx 5 0])],
    [(0,some (.cells 3 [.i n])),(1,some (.obj (mapP (L.map (kvM keyI))))),(2,some (.cells 102 [.tp 1])),(3,some (.cells 104 [.fn (.func 41) [] [.bx 2 0]])),(4,some (.cells 23 [.tp 6])),(5,some (.cells 108 [.a (.sl 5 (qcy b l) none)])),(6,some (.tip 3 44 (out.map zt)))],7⟩) _
   (λk(out,L,n)=>k<=b.length∧out.length+k=b.length∧0<=n∧n<=900000+(out.length:Int)∧out++x8 ((w9 b l).take k).reverse L n=x8 (w9 b l).reverse [] d.next) (λ_ _=>False) ([],[],d.next) ⟨Om,by simp[hxl],Om,So,by rw[Xf (by rw[qhe];omega)];rfl⟩ ?_ (λh=>h) (λ_=>rfl) rfl (λ_=>rfl) (λ_=>rfl) rfl ?_ ?_ (λ_ _ h=>h.elim)
  .skip
   repeat' (first|apply Qa|(intro h;try exact cDd)|exact cSd|apply qb []|refine exr ?_|refine qe ?_)
   all_goals first|rfl|assumption|(simp;done)
  .rintro k ⟨out,L,n⟩ v j ⟨p1,p2,p3,p4,p5⟩ hv
   obtain⟨y,rfl,hy,rfl⟩:=qwp hv;have hx:b[j]?=some b[j]:=Qd Om;have lg:=hg b[j] (Qs Om);have hyx:=qr9 (l:=l) hx;rw[hy]at hyx;simp only[Qb]at hyx;subst hyx;have hrs:=qn7 (l:=l) hx;rw[hrs,x8]at p5;have hkind:(yi (je (b.take j) l) b[j]).kind=1∨(yi (je (b.take j) l) b[j]).kind=2∨(yi (je (b.take j) l) b[j]).kind=3:=qrb lg;generalize yi (je (b.take j) l) b[j]=s at *;generalize b[j]=x at *;have mw:(out.map zt).length=out.length:=Sx
   have pg:∀(a:qm),(out++[a]).map zt=out.map zt++[zt a]:=λa=>by simp
   have hnm:=λid=>zjc id L;rcases hkind with hk|hk|hk
   .rw[if_pos hk]at p5
    refine RA.mk λS F ρ rd=>?_;apply qd [];repeat' (first|apply Qa|(intro h;try exact cDd)|(refine RB.mk λS rd=>?_;apply qd [])|exact⟨Tryz.call41⟩|(refine Qc _ ⟨qsm (hnm s.id) ⟨rfl,rfl,trivial⟩,?_⟩)|(refine Qc (out++[⟨1,wd L s.id,s.was⟩],L,n) ⟨⟨Om,So,p3,So,by rw[<-p5];simp⟩,?_⟩)|exact cSd|apply qb []|refine exr ?_|refine qe ?_)
    all_goals first|rfl|assumption|omega|exact(pg ⟨1,wd L s.id,s.was⟩).symm|(simp[SV.evs];omega)
   .rw[if_neg Om,if_pos hk]at p5
    refine RA.mk λS F ρ rd=>?_;apply qd [];repeat' (first|apply Qa|(intro h;try exact cDd)|(refine RB.mk λS rd=>?_;apply qd [])|exact⟨Tryz.call41⟩|(refine Qc _ ⟨qsm (hnm s.ahead) ⟨rfl,rfl,trivial⟩,?_⟩)|(refine zj0 q7y rfl rfl rfl (λ_=>rfl) rfl (λ_=>rfl) rfl rfl rfl ?_)|(refine Qc (out++[⟨3,wd L s.ahead,s.was⟩],setM s.id n L,n+1) ⟨⟨Om,So,Om,So,by rw[<-p5];simp⟩,?_⟩)|exact cSd|apply qb []|refine exr ?_|refine qe ?_)
    all_goals first|rfl|assumption|omega|exact(pg ⟨3,wd L s.ahead,s.was⟩).symm|(simp[SV.evs];omega)
   .rw[if_neg Om,if_neg Om]at p5
    refine RA.mk λS F ρ rd=>?_;apply qd [];repeat' (first|apply Qa|(intro h;try exact cDd)|(refine RB.mk λS rd=>?_;apply qd [])|exact⟨Tryz.call41⟩|(refine Qc _ ⟨qsm (hnm s.id) ⟨rfl,rfl,trivial⟩,?_⟩)|(refine Qc (out++[⟨2,wd L s.id,[]⟩],L,n) ⟨⟨Om,So,p3,So,by rw[<-p5];simp⟩,?_⟩)|exact cSd|apply qb []|refine exr ?_|refine qe ?_)
    all_goals first|rfl|assumption|omega|exact(pg ⟨2,wd L s.id,[]⟩).symm|(simp[SV.evs];omega)
  .rintro i ⟨out,L,n⟩ hy ⟨p1,p2,p3,p4,p5⟩
   have:=zcj hy Om;subst this;have p5:out++[]=_:=p5;rw[Qv]at p5;rw[<-p5];repeat' (first|apply Qa|(intro h;try exact cDd)|exact cSd|apply qb []|refine exr ?_|refine qe ?_)
   all_goals first|rfl|(simp;done)
end Go.Proofs.YtlekheifonaipaaGreatDoor
