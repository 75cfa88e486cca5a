/- Contracts and plain facts that the closing text leans on (part 8). No condition of their own beyond those that each states. -/
import Derived.Test.YthnbabbhpeebbaaGreatDoorK7
import Derived.Shelf.SlIter.Nil
import Derived.Shelf.SortM.Plain
import Derived.Shelf.SortM.SortNone
import Derived.Lib.IfaceEq
set_option maxRecDepth 100000
set_option linter.unusedVariables false
set_option linter.unusedSimpArgs false
open And renaming intro→Qb
open Array renaming ext→Xv
open Bool renaming and_eq_true→Qt,or_false→Zn,and_true→Zs,false_or→Xw
open Exists renaming intro→Qg
open Int renaming toNat_natCast→Zj
open List renaming mem_append→Qa,mem_singleton→Qc,getElem?_map→Qd,mem_cons_of_mem→Qe,length_append→Qf,cons_append→Qi,mem_cons→Qj,map_cons→Qk,nil_append→Ql,length_cons→Qm,mem_cons_self→Qp,nodup_append→Qq,getElem?_append_left→Qr,getElem?_eq_getElem→Qu,getElem?_eq_some_iff→Qy,drop_eq_getElem_cons→Qz,nodup_cons→Za,all_eq_true→Zb,length_nil→Zc,any_cons→Ze,mem_of_mem_take→Zf,append_nil→Zi,take_append_drop→Zk,mem_map→Zl,mem_append_left→Zm,toList_toArray→Zo,pairwise_iff_getElem→Zp,any_nil→Zr,flatMap_nil→Zt,getElem_mem→Zu,mem_reverse→Zv,length_map→Zx,map_append→Zy,getElem?_set_ne→Zz,mem_of_getElem?→Xb,eq_nil_of_length_eq_zero→Xc,mem_or_eq_of_mem_set→Xd,map_nil→Xe,not_mem_nil→Xf,mem_append_right→Xk,nodup_nil→Xl,mem_of_mem_drop→Xm,getElem?_of_mem→Xo,all_cons→Xp,all_nil→Xq,flatMap_cons→Xr,take_length→Xs,drop_length→Xt,foldl_cons→Xu,map_map→Xy,length→Xz,getD→Ya
open List.cons renaming injEq→Zh,inj→Xx
open Nat renaming le_refl→Qn,ble_eq_true_of_le→Qs,beq→Qv,le_of_ble_eq_true→Qw,eq_of_beq_eq_true→Qx,blt→Zd,le_trans→Zg,lt_of_lt_of_le→Zq,ble→Zw,zero_add→Xg,le_add_right→Xi,zero_le→Xj
open Option renaming map_some→Xa,getD_some→Xh
open Option.some renaming injEq→Qh
open Prod renaming fst→Qo
namespace Go.Proofs.YthnbabbhpeebbaaGreatDoor
open Go Go.Av Go.RowKit Go.Proofs Go.Pl
structure BkB (b:v4):Prop where
 base:b.base.length<1000000
 len:b.batches.length<=14000
 bat:∀x∈b.batches,BB x∧x.length<=5000
theorem q9w(b:List qt):9<=(recE b).length:=by
 unfold recE recF qki;simp[z6];omega
theorem qt2:∀r:List (List qt),9*r.length<=(wc r).length
 | []=>by simp[wc]
 |b::r=>by
  have h1:=qt2 r;have h2:=q9w b;rw[qan];simp only[Qf,Qm];omega
theorem qqz{text:qa}{b:v4}(h:yb text b):BkB b:=by
 have h1:=congrArg Xz h.split;have h2:=h.len;have h3:=qt2 b.batches;simp only[Qf,js]at h1;refine⟨Om,Om,λx hx=>?_⟩;obtain⟨g1,g2,_⟩:=qgf (h.good x hx).ok;exact⟨⟨Om,(h.good x hx).B⟩,Om⟩
def qla(b:v4)(n:Int):ErrV×RunV:=if n<0∨(b.batches.length:Int)<n then(.num 1,⟨ofF [],[],[]⟩)else yp b.base (b.batches.take n.toNat)
theorem q9t(b:v4)(n:Int)(st:List AObj)(hB:BkB b):qm E 116 [qcm b,Iv n] st λr st'=>r=qto (qla b n).1 (qla b n).2.l∧st'=st:=by
 refine ja [.a (qcm b),.i n] (qk2 _ _) Tryz.func116 rfl rfl (λ_=>rfl) rfl λS0=>?_;have tg:=hB.len;have bf:(b.batches.map jz).length=b.batches.length:=Sx
 unfold qla;by_cases hn:n<0∨(b.batches.length:Int)<n
 .rw[if_pos hn]
  apply qd [];repeat' (first|apply Qb|(intro h;try exact cDd)|exact cSd|apply qb []|refine exr ?_|refine qf ?_)
 .rw[if_neg hn]
  obtain⟨k,rfl⟩:∃k:Nat,n=(k:Int):=⟨n.toNat,Om⟩;rw[Zj];have hp:=λst=>zgh b.base (b.batches.take k) st hB.base So (λx hx=>hB.bat x (Zf hx));unfold qe3 at hp;rw[List.map_take]at hp;generalize yp b.base (b.batches.take k)=p at hp;obtain⟨e,r⟩:=p
  cases e with
  |no=>
   apply qd []
   repeat' (first|apply Qb|(intro h;try exact cDd)|exact⟨Tryz.call152⟩|refine cpe hp ?_|exact cSd|apply qb []|refine exr ?_|refine qf ?_)
  |num m=>
   apply qd []
   repeat' (first|apply Qb|(intro h;try exact cDd)|exact⟨Tryz.call152⟩|refine cpe hp ?_|exact cSd|apply qb []|refine exr ?_|refine qf ?_)
  |at' a m=>
   apply qd [];repeat' (first|apply Qb|(intro h;try exact cDd)|exact⟨Tryz.call152⟩|refine cpe hp ?_|exact cSd|apply qb []|refine exr ?_|refine qf ?_)
theorem zi6(b:v4)(st:List AObj)(hB:BkB b):qm E 82 [qcm b] st λr st'=>r=qto (yp b.base b.batches).1 (yp b.base b.batches).2.l∧st'=st:=by
 refine ja [.a (qcm b)] (qk2 _ _) Tryz.func82 rfl rfl (λ_=>rfl) rfl λS0=>?_;have bf:(b.batches.map jz).length=b.batches.length:=Sx
 have e:qla b (((b.batches.map jz).length:Nat):Int)=yp b.base b.batches:=by
  unfold qla;rw[bf,if_neg Om,Zj,Xs]
 have hp:=λst=>q9t b (((b.batches.map jz).length:Nat):Int) st hB;rw[e]at hp;generalize yp b.base b.batches=p at hp;obtain⟨er,r⟩:=p
 cases er with
 |no=>
  apply qd []
  repeat' (first|apply Qb|(intro h;try exact cDd)|exact⟨Tryz.call116⟩|refine cpe hp ?_|exact cSd|apply qb []|refine exr ?_|refine qf ?_)
 |num m=>
  apply qd []
  repeat' (first|apply Qb|(intro h;try exact cDd)|exact⟨Tryz.call116⟩|refine cpe hp ?_|exact cSd|apply qb []|refine exr ?_|refine qf ?_)
 |at' a m=>
  apply qd [];repeat' (first|apply Qb|(intro h;try exact cDd)|exact⟨Tryz.call116⟩|refine cpe hp ?_|exact cSd|apply qb []|refine exr ?_|refine qf ?_)
def zg(text:qa):ErrV×v4×zo:=if(ko text).1=.no then(if(yp (ko text).2.base (ko text).2.batches).1=.no then(.no,(ko text).2,(yp (ko text).2.base (ko text).2.batches).2.l)else((yp (ko text).2.base (ko text).2.batches).1,qg4,ofF []))else((ko text).1,qg4,ofF [])
def qf7(r:ErrV×v4×zo):AV:=match r.1 with
 |.no=>.tu [qcm r.2.1,qb1 r.2.2,errA .no]
 |e=>.tu [qcm r.2.1,.v (.pointer none),errA e]
theorem q2s(r:ErrV×v4×zo):Pure (qf7 r):=by
 unfold qf7;split
 .exact qm1 (ql5 _) (qip _) (vu _)
 .exact qm1 (ql5 _) (qw _) (vu _)
theorem qvf(text:qa)(st:List AObj)(hl:text.length<1000000):qm E 39 [Sv text] st λr st'=>r=qf7 (zg text)∧st'=st:=by
 refine ja [.s text] (q2s _) Tryz.func39 rfl rfl (λ_=>rfl) rfl λS0=>?_;have gj:=λst=>q3b text st hl;have rk:(ko text).1=.no->BkB (ko text).2:=λh=>qqz (qq0 (text:=text) (b:=(ko text).2) (by rw[<-h]));unfold zg;generalize ko text=q at gj rk;obtain⟨e,b⟩:=q
 cases e with
 |num m=>
  rw[if_neg Sx];apply qd []
  repeat' (first|apply Qb|(intro h;try exact cDd)|exact⟨Tryz.call81⟩|refine cpe gj ?_|exact cSd|apply qb []|refine exr ?_|refine qf ?_)
 |at' a m=>
  rw[if_neg Sx];apply qd []
  repeat' (first|apply Qb|(intro h;try exact cDd)|exact⟨Tryz.call81⟩|refine cpe gj ?_|exact cSd|apply qb []|refine exr ?_|refine qf ?_)
 |no=>
  rw[if_pos rfl];have hof:=λst=>zi6 b st (rk rfl);dsimp only;generalize yp b.base b.batches=p at hof;obtain⟨e,r⟩:=p
  cases e with
  |no=>
   rw[if_pos rfl];apply qd []
   repeat' (first|apply Qb|(intro h;try exact cDd)|exact⟨Tryz.call81⟩|refine cpe gj ?_|exact⟨Tryz.call82⟩|refine cpe hof ?_|exact cSd|apply qb []|refine exr ?_|refine qf ?_)
  |num m=>
   rw[if_neg Sx];apply qd []
   repeat' (first|apply Qb|(intro h;try exact cDd)|exact⟨Tryz.call81⟩|refine cpe gj ?_|exact⟨Tryz.call82⟩|refine cpe hof ?_|exact cSd|apply qb []|refine exr ?_|refine qf ?_)
  |at' a m=>
   rw[if_neg Sx];apply qd [];repeat' (first|apply Qb|(intro h;try exact cDd)|exact⟨Tryz.call81⟩|refine cpe gj ?_|exact⟨Tryz.call82⟩|refine cpe hof ?_|exact cSd|apply qb []|refine exr ?_|refine qf ?_)
end Go.Proofs.YthnbabbhpeebbaaGreatDoor
namespace Go.Pl
open Go Go.Proofs
def cntF(es:List EntV):Nat:=es.countP λe=>decide (0<e.id)
theorem qvy(es:List EntV)(e:EntV):cntF (es++[e])=cntF es+if 0<e.id then 1 else 0:=by
 unfold cntF;rw[List.countP_append];by_cases h:0<e.id<;>simp[h]
end Go.Pl
namespace Go.Pl
open Go Go.Proofs Go.Av
def LM(l:zo):Prop:=l.many=cntF l.ents
theorem qgd(a b:List EntV):cntF (a++b)=cntF a+cntF b:=by simp[cntF]
theorem qkb(e:EntV)(b:List EntV):cntF (e::b)=(if 0<e.id then 1 else 0)+cntF b:=by
 by_cases h:0<e.id<;>simp[cntF,h]<;>omega
theorem q7y{l:List EntV}{i:Nat}{e:EntV}(h:l[i]?=some e):l=l.take i++e::l.drop (i+1):=by
 obtain⟨hi,rfl⟩:=Qy.1 h;rw[<-Qz hi,Zk]
theorem zdb{l:zo}(h:LM l)(id:Int)(fs:List Fld):LM (qdg l id fs).2:=by
 unfold qdg;split
 .exact h
 .split
  .unfold qt6
   split
   .rename_i e he
    unfold LM at h⊢;simp only;rw[h];have h1:=q7y he;have hi:=lt_of_getElem? he;rw[List.set_eq_take_append_cons_drop,if_pos hi]
    conv=>lhs;rw[h1]
    rw[qgd,qgd,qkb,qkb]
   .exact h
  .exact h
theorem ze7{l:zo}(h:LM l)(id:Int):LM (delF l id).2:=by
 unfold delF;split
 .exact h
 .rename_i hn
  rcases qso l id with g|⟨i,e,g,he,nc,hid1⟩
  .exact absurd (by rw[g];decide) hn
  .rw[g,Zj]
   unfold LM delL at *;simp only;rw[h];have h1:=q7y he
   conv=>lhs;rw[h1]
   rw[qgd,qgd,qkb,if_pos Om];omega
theorem zfk{l:zo}(h:LM l)(hn:1<=l.next)(id:Int)(fs:List Fld):LM (insF l id fs).2.2:=by
 unfold insF;split
 .exact h
 .split
  .split
   .exact h
   .unfold LM insL at *
    simp only;rw[h,qgd,qkb,if_pos (by simp only;omega)]
    conv=>lhs;rw[<-Zk (atF l id+1).toNat l.ents]
    rw[qgd];omega
  .exact h
theorem q0j:∀(its:List jc)(l:zo),LM l->1<=l.next->LM (its.foldl qds l)∧1<=(its.foldl qds l).next
 | [],l,h,hn=>⟨h,hn⟩
 |x::r,l,h,hn=>by
  rw[Xu];unfold qds;split
  .refine q0j r _ ?_ (by simp only;omega)
   unfold LM at *;simp only;rw[qvy,if_pos (by simp only;omega),h];omega
  .refine q0j r _ ?_ hn
   unfold LM at *;simp only;rw[qvy,if_neg Sx,h];omega
theorem zh8(its:List jc):LM (ofF its):=(q0j its ⟨[],1,0⟩ (by simp[LM,cntF]) (by decide)).1
end Go.Pl
namespace Go.Proofs.YthnbabbhpeebbaaGreatDoor
open Go Go.Av Go.RowKit Go.Proofs Go.Pl
theorem zf3{l:zo}(h:LM l)(hn:1<=l.next)(x:qt):LM (oneF l x).2.2:=by
 unfold oneF;split
 .exact zdb h _ _
 .split
  .exact ze7 h _
  .exact zfk h hn _ _
theorem qv7:∀(b:List qt)(k n:Nat)(l:zo)(ids:List Int),LM l->LB n l->n+b.length<900000->LM (qc0 k b l ids).2.1
 | [],k,n,l,ids,h,_,_=>h
 |x::r,k,n,l,ids,h,hB,hs=>by
  simp only[Qm]at hs;unfold qc0;split
  .exact qv7 r (k+1) (n+1) _ _ (zf3 h hB.nx0 x) (qu9 hB Om x) Om
  .exact h
theorem zhi{n:Nat}{l:zo}(h:LM l)(hB:LB n l)(hs:n+40<900000)(b:List qt):LM (doF l b).2.1:=by
 unfold doF;split
 .rename_i he
  obtain⟨h1,h2,_⟩:=qgf he;exact qv7 b 0 n l [] h hB Om
 .exact h
end Go.Proofs.YthnbabbhpeebbaaGreatDoor
namespace Go.Pl
open Go Go.Proofs Go.Proofs.YthnbabbhpeebbaaGreatDoor
theorem qtz(x:jc)(r:List jc):qa4 (x::r)=x.raw++qa4 r:=by simp[qa4]
theorem zc2{its:List jc}{x:jc}(h:x∈its):x.raw.length<=(qa4 its).length:=by
 induction its with
 |nil=>simp at h
 |cons y r ih=>
  rw[qtz,Qf];rcases Qj.1 h with rfl|h
  .omega
  .have:=ih h
   omega
structure PR (m:Nat) (p:PSt):Prop where
 tot:(qa4 p.items).length+(zp p.block).length<=m
 fl:∀x∈p.items,x.fields.length<900000
theorem qoa{m:Nat}{p:PSt}(h:PR m p):PR m (jr p).2:=by
 unfold jr;split
 .exact h
 .split
  .exact h
  .split
   .exact h
   .exact⟨h.tot,h.fl⟩
theorem q7v{m:Nat}{p:PSt}(h:PR m p)(hf:p.fields.length<900000):PR m (x4 p):=by
 have ht:=h.tot;unfold x4;split
 .exact⟨by simp only[zp,Zt,Zc];omega,h.fl⟩
 .refine⟨?_,λx hx=>?_⟩
  .simp only[qot,qkp,Qf]
   simp only[zp,Zt,Zc]at ht⊢;omega
  .simp only[Qa,Qc]at hx
   rcases hx with hx|rfl
   .exact h.fl x hx
   .exact hf
theorem qu1{m n:Nat}{p:PSt}(h:PR m p)(hB:PB n p)(hs:n+1<900000):PR m (endP p).2:=by
 unfold endP;split
 .exact h
 .have:=(qhm hB hs).fields
  exact q7v (qoa h) Om
theorem q63{m n:Nat}{p:PSt}{no:Int}{text:qa}{ended:Bool}{kind:Int}(h:PR m p)(hB:PB n p)(hs:n+1<900000):PR m (jk p no text ended kind).2:=by
 unfold jk;split
 .split
  .exact h
  .split
   .exact⟨h.tot,h.fl⟩
   .exact qoa ⟨h.tot,h.fl⟩
 .split
  .exact qu1 h hB hs
  .exact qoa h
theorem qbp(a b:List qa):zp (a++b)=zp a++zp b:=by simp[zp]
theorem zdp{m n:Nat}{p:PSt}{no:Int}{text:qa}{ended:Bool}(h:PR m p)(hB:PB n p)(hs:n+1<900000):PR (m+text.length+1) (wo p no text ended).2:=by
 have more:∀{q:PSt},PR m q->PR (m+text.length+1) q:=λh=>⟨by have:=h.tot;omega,h.fl⟩;have h2:PR m (jk p no text ended (qy text)).2:=q63 h hB hs;have ht:=h2.tot;unfold wo;split
 .exact more h
 .split
  .exact more h
  .split
   .refine⟨?_,λx hx=>?_⟩
    .simp only[qot,qkp,Qf,Qm,Zc]
     omega
    .simp only[Qa,Qc]at hx
     rcases hx with hx|rfl
     .exact h2.fl x hx
     .simp
   .split
    .refine⟨?_,h2.fl⟩
     simp only[kl,qbp,Qf];simp only[zp,Xr,Zt,Qf,Qm,Zc]at ht⊢;omega
    .refine⟨?_,h2.fl⟩
     simp only[qbp,Qf];simp only[zp,Xr,Zt,Qf,Qm,Zc]at ht⊢;omega
theorem zgj:∀(n:Nat)(rest:qa)(k m:Nat)(p:PSt),rest.length<=n->PB (4*k) p->PR m p->k+rest.length<=60000->PR (m+2*rest.length) (runL k (zv rest) p).2:=by
 intro n
 induction n with
 |zero=>
  intro rest k m p hr hB hR hk;obtain rfl:rest=[]:=Xc Om;rw[wi,runL]
  exact qu1 hR hB Om
 |succ n ih=>
  intro rest k m p hr hB hR hk;by_cases d7:rest=[]
  .subst d7
   rw[wi,runL];exact qu1 hR hB Om
  .have hu:=vd 10 rest
   have gm:=ku 10 rest;have hr0:0<rest.length:=List.length_pos_iff.2 d7;rw[wr d7];simp only[runL];have ng:=qrx (no:=k) (text:=upto 10 rest) (ended:=decide (10∈rest)) hB Om Om;have s8:=zdp (no:=k) (text:=upto 10 rest) (ended:=decide (10∈rest)) hR hB Om;split
   .exact⟨by have:=hR.tot;simp only;omega,hR.fl⟩
   .have:=ih (past 10 rest) (k+1) _ _ Om ng s8 Om
    exact⟨by have:=this.tot;omega,this.fl⟩
theorem zfm(text:qa):(qa4 (itsE text)).length<=120000∧∀x∈itsE text,x.fields.length<900000:=by
 unfold itsE;split
 .simp[qa4]
 .have h:=zgj text.length text 0 0 p0 (Qn _) q57 ⟨by simp[p0,qa4,zp],by simp[p0]⟩ Om
  unfold kr;split
  .simp[qa4]
  .have:=h.tot
   exact⟨by simp only;omega,h.fl⟩
def LI(l:zo):Prop:=∀e∈l.ents,e.x.raw.length<=1000000∧e.x.fields.length<900000
theorem q88:∀(its:List jc)(l:zo),LI l->(∀x∈its,x.raw.length<=1000000∧x.fields.length<900000)->LI (its.foldl qds l)
 | [],l,h,_=>h
 |x::r,l,h,hx=>by
  rw[Xu];refine q88 r _ ?_ λy hy=>hx y (by simp[hy]);have h1:=hx x Sx;unfold qds;split
  .intro e he
   simp only[Qa,Qc]at he;rcases he with he|rfl
   .exact h e he
   .exact h1
  .intro e he
   simp only[Qa,Qc]at he;rcases he with he|rfl
   .exact h e he
   .exact h1
theorem zh7(text:qa):LI (ofF (itsE text)):=by
 obtain⟨h1,h2⟩:=zfm text;refine q88 _ _ (by simp[LI]) λx hx=>⟨?_,h2 x hx⟩;have:=zc2 hx;omega
theorem qwv(fs:List Fld):(qeq fs).raw.length<=1000000∧(qeq fs).fields.length<900000:=by
 unfold qeq;split
 .rename_i h
  obtain⟨_,g1,g2⟩:=ql7 h;have:=qhn fs g2;exact⟨by simp only;omega,by simp only;omega⟩
 .exact⟨Sx,Sx⟩
theorem zda{l:zo}(h:LI l)(id:Int)(fs:List Fld):LI (qdg l id fs).2:=by
 unfold qdg;split
 .exact h
 .split
  .unfold qt6
   split
   .intro y hy
    rcases Xd hy with hy|rfl
    .exact h y hy
    .exact qwv fs
   .exact h
  .exact h
theorem ze6{l:zo}(h:LI l)(id:Int):LI (delF l id).2:=by
 unfold delF;split
 .exact h
 .intro y hy
  simp only[delL,Qa]at hy;rcases hy with hy|hy
  .exact h y (Zf hy)
  .exact h y (Xm hy)
theorem zfj{l:zo}(h:LI l)(id:Int)(fs:List Fld):LI (insF l id fs).2.2:=by
 unfold insF;split
 .exact h
 .split
  .split
   .exact h
   .intro y hy
    simp only[insL,Qa,Qj]at hy;rcases hy with hy|rfl|hy
    .exact h y (Zf hy)
    .exact qwv fs
    .exact h y (Xm hy)
  .exact h
theorem qsj:∀(its:List jc)(b:Bool),(∀x∈its,x.raw.length<=1000000)->(qa4 (qhf b its)).length<=1000001*its.length
 | [],b,h=>by simp[qhf,qa4]
 |x::r,b,h=>by
  have ih:=qsj r (decide (x.kind≠1)) λy hy=>h y (by simp[hy]);have hx:=h x Sx;rw[qhf,qot,Qf];split
  .rw[qtz,qkp]
   simp only[Qf,Qm,Zc];omega
  .rw[qkp]
   simp only[Qm];omega
theorem zdq{n:Nat}{l:zo}(hB:LB n l)(h:LI l):(q6w l).length<=1000000000000:=by
 have h1:=qsj (qji l) false λx hx=>by
  obtain⟨e,he,rfl⟩:=Zl.1 hx;exact(h e he).1
 have h2:=hB.len;have h3:=hB.small;unfold q6w q66;have:(qji l).length=l.ents.length:=by simp[qji]
 omega
end Go.Pl
namespace Go.Proofs.YthnbabbhpeebbaaGreatDoor
open Go Go.Av Go.RowKit Go.Proofs Go.Pl
theorem zf2{l:zo}(h:LI l)(x:qt):LI (oneF l x).2.2:=by
 unfold oneF;split
 .exact zda h _ _
 .split
  .exact ze6 h _
  .exact zfj h _ _
theorem qv6:∀(b:List qt)(k:Nat)(l:zo)(ids:List Int),LI l->LI (qc0 k b l ids).2.1
 | [],k,l,ids,h=>h
 |x::r,k,l,ids,h=>by
  unfold qc0;split
  .exact qv6 r (k+1) _ _ (zf2 h x)
  .exact h
theorem zhh{l:zo}(h:LI l)(b:List qt):LI (doF l b).2.1:=by
 unfold doF;split
 .exact qv6 b 0 l [] h
 .exact h
theorem zfl{n:Nat}{l:zo}(hB:LB n l)(h:LI l):ItsB (qji l):=by
 have h1:=hB.len;have h2:=hB.small;refine⟨by simp[qji];omega,λx hx=>?_⟩;obtain⟨e,he,rfl⟩:=Zl.1 hx;have:=(h e he).2;omega
theorem qww{base:qa}:∀(bs:List (List qt))(k:Nat)(r:RunV),k+bs.length<=14000->LB (300000+40*k) r.l->LM r.l->LI r.l->LB 860000 (qbx bs r).2.l∧LM (qbx bs r).2.l∧LI (qbx bs r).2.l
 | [],k,r,hk,h1,h2,h3=>⟨qgo h1 (by simp at hk;omega) Om,h2,h3⟩
 |b::q,k,r,hk,h1,h2,h3=>by
  simp only[Qm]at hk;unfold qbx;split
  .exact qww (base:=base) q (k+1) _ Om (qgo (q72 h1 Om b) Om Om) (zhi h2 h1 Om b) (zhh h3 b)
  .exact⟨qgo h1 Om Om,h2,h3⟩
theorem zcw(base:qa)(bs:List (List qt))(h:bs.length<=14000):LB 860000 (yp base bs).2.l∧LM (yp base bs).2.l∧LI (yp base bs).2.l:=by
 unfold yp;split
 .exact qww (base:=base) bs 0 _ Om (q86 base) (zh8 _) (zh7 base)
 .exact⟨⟨Om,by simp[ofF],by simp[ofF],by simp[ofF],by simp[ofF],by simp[ofF]⟩,by simp[ofF,LM,cntF],by simp[ofF,LI]⟩
theorem qw2{text:qa}{b:v4}{r:RunV}(hT:yb text b)(hp:yp b.base b.batches=(.no,r)):zg text=(.no,b,r.l):=by
 unfold zg;rw[zes hT];simp[hp]
theorem qed{text:qa}(h:(zg text).1=.no):∃b r,yb text b∧yp b.base b.batches=(.no,r)∧zg text=(.no,b,r.l):=by
 by_cases hb:(ko text).1=.no
 .have hT:=qq0 (text:=text) (b:=(ko text).2) (by rw[<-hb])
  by_cases hp:(yp (ko text).2.base (ko text).2.batches).1=.no
  .have hp':yp (ko text).2.base (ko text).2.batches=(.no,(yp (ko text).2.base (ko text).2.batches).2):=by rw[<-hp]
   exact⟨_,_,hT,hp',qw2 hT hp'⟩
  .unfold zg at h
   rw[if_pos hb,if_neg hp]at h;exact absurd h hp
 .unfold zg at h
  rw[if_neg hb]at h;exact absurd h hb
end Go.Proofs.YthnbabbhpeebbaaGreatDoor
namespace Go.Pl
open Go Go.Proofs Go.Proofs.YthnbabbhpeebbaaGreatDoor
def runT(text:qa):RunV:=(yp (ko text).2.base (ko text).2.batches).2
end Go.Pl
namespace Go.Pl
open Go Go.Proofs Go.Av Go.Proofs.YthnbabbhpeebbaaGreatDoor
def dupS(key:qa)(pre:List (Int×List Fld))(x:Int×List Fld):Bool:=(qo5 key x.2).any λv=>pre.any λy=>decide (v∈qo5 key y.2)
def zbb(r:qda)(pre:List (Int×List Fld))(x:Int×List Fld):Prop:=x.2.any (badR r)=true∨(r.kind=1∧cntR r x.2=0)∨(r.kind=2∧1<cntR r x.2)∨(r.kind=7∧dupS r.key pre x=true)
instance (r:qda)(pre:List (Int×List Fld))(x:Int×List Fld):Decidable (zbb r pre x):=inferInstanceAs (Decidable (_∨(_∧_)∨(_∧_)∨(_∧_)))
end Go.Pl
namespace Go.Pl
open Go
def i64(n:Int):Prop:= -9223372036854775808<=n∧n<=9223372036854775807
end Go.Pl
namespace Go.Av
open Go Go.RowKit
theorem q5h(ρ:Nat->AV)(a b:List SV):SV.evs ρ (a++b)=SV.evs ρ a++SV.evs ρ b:=by simp[zw]
section
variable {E : Env} {N : Nat} {ops : Array Oper} {nx : Nat} {sl : List (Nat × SV)} {H : Nat → Option SR} {k : Ef → Prop} {d : Option Tmp} {T : TypeId} {p : String} {af : Array Edge}
theorem q8b(ρ:Nat->AV)(zs:List AV)(cs:List SV):SV.evs ρ (zs.map SV.a++cs)=zs++SV.evs ρ cs:=by
 rw[q5h,zw,Xy];congr 1
 conv=>rhs;rw[<-List.map_id zs]
 exact List.map_congr_left λx _=>rfl
theorem qhu{t e e':TypeId}{x y:Operand}{b i:Nat}{agg:Bool}{zs:List AV}{cs:List SV}{kd:IntKind}{v:SV}(hx:sval N sl x=some (.tp b))(hH:H b=some (.rows e zs cs))(hy:sval N sl y=some v)(hv:qez v=some (kd,(i:Int)))(he:elT (E.P.underlying t)=some e')(ht:tyOf E.P e'=some (1,agg))(hi:i<zs.length+cs.length)
  (h:k ⟨.bx b (0+i*1),[b],[],nx⟩):∃e,Loc E N ops ⟨d,.indexAddr t x y,T,p,af,none⟩ nx sl H e∧k e:=by
 refine⟨_,w6 (v:=.bx b (0+i*1)) λdf rd K rest ρ t' S hs hS hk=>?_,h⟩;have b9:(zs++SV.evs ρ cs).length=zs.length+cs.length:=by rw[Qf,zw,Zx]
 rcases hS.ok b _ ((z8 b).trans hH)with⟨e0,_⟩|⟨o,ver,cap,pad,e1,e2,_⟩
 .rw[e0]at b9
  simp at b9;omega
 .refine qia (o:=o) (ver:=ver) (off:=0) (len:=(zs++SV.evs ρ cs).length) (cp:=cap+1) ((qs hs hx).trans (by simp[SV.ev,e1,tpAt,AV.one])) ((qs hs hy).trans (qbt hv ρ)) (qbg he) ht rfl Om ?_
  simpa only[SV.ev,e1,bxAt]using hk
theorem qhv{t e:TypeId}{x:Operand}{b off i:Nat}{zs:List AV}{cs:List SV}{v:SV}(hx:sval N sl x=some (.bx b off))(hH:H b=some (.rows e zs cs))(ht:tyOf E.P t=some (1,false))(ho:off=0+i*1+0)(hz:(zs.map SV.a++cs)[i]?=some v)(p6:v.one=true)
  (h:k ⟨v,[b],[],nx⟩):∃e,Loc E N ops ⟨d,.load t x,T,p,af,none⟩ nx sl H e∧k e:=by
 refine⟨_,w6 (v:=v) λdf rd K rest ρ t' S hs hS hk=>?_,h⟩;have hz2:(zs++SV.evs ρ cs)[i]?=some (v.ev ρ):=by rw[<-q8b,zw,Qd,hz];rfl
 rcases hS.ok b _ ((z8 b).trans hH)with⟨e0,_⟩|⟨o,ver,cap,pad,e1,e2,e3,e4,_⟩
 .rw[e0]at hz2
  simp at hz2
 .subst ho
  refine kh (o:=o) (ver:=ver) (off:=0+i*1+0) ((qs hs hx).trans (by simp only[SV.ev,e1,bxAt])) e2 ht (qwe (sz:=1) e4 hz2 (by rw[qor (qvg ρ v p6)];rfl) Om λ_=>by omega) hk
end
end Go.Av
namespace Go.Av
open Go Go.RowKit
structure EntE (n0:Nat) (C C':Conf):Prop where
 ent:∃σ,(rigN σ n0&&Zw n0 C'.nx)=true∧EntC σ C C'
theorem entE{n0:Nat}{C C':Conf}(σ:List (Nat×Nat))(h:(rigN σ n0&&Zw n0 C'.nx)=true∧EntC σ C C'):EntE n0 C C':=⟨σ,h⟩
theorem qox{E:Env}{rd:Option Nat}{N:Nat}{B:Bs}{Q:Exit->Conf->Prop}{C:Conf}{X:Type}{c:Code}(I:X->Conf)(P:X->Prop)(μ:X->Nat)(x0:X)(h0:P x0)(he:EntE B.n0 C (I x0))
  (hr:∀x,P x->Sm E rd N B c (λe C'=>match e with
   |.normal=>∃x',P x'∧μ x'<μ x∧EntE B.n0 C' (I x')
   |e=>Q e C') (I x)):Sm E rd N B (.loop c) Q C:=⟨λs hs=>by
 refine xy (σ:=X) (λx s=>P x∧∃t',(∀d,Wk (s.t d) (t' d))∧SatC B (I x) ⟨t',s.st,s.df⟩) μ x0 ?_ ?_
 .obtain⟨t,S,df⟩:=s
  obtain⟨ρ,i5,hR⟩:=hs;simp only at i5 hR;obtain⟨σ0,hr0,he⟩:=he.ent;obtain⟨t',hw,rj⟩:=he.sat hR;exact⟨h0,t',hw,_,i5.ren hr0,rj⟩
 .rintro x ⟨t,S,df⟩ ⟨hP,t',hw,hs⟩
  simp only at hw hs;refine qyp hw (((hr x hP).run ⟨t',S,df⟩ hs).mono λe s' ⟨C',hq,bz⟩=>?_)
  cases e with
  |normal=>
   obtain⟨x',hP',e8,mv⟩:=hq;obtain⟨t2,S2,df2⟩:=s';obtain⟨ρ2,hdf2,s8⟩:=bz;simp only at hdf2 s8;obtain⟨σ,hr2,mv⟩:=mv.ent;obtain⟨t3,hw3,lv⟩:=mv.sat s8
   exact⟨x',⟨hP',t3,hw3,_,hdf2.ren hr2,lv⟩,e8⟩
  |_=>exact⟨C',hq,bz⟩⟩
def q6o(H:Nat->Option SR):List (Nat×Option SR)->Prop
 | []=>True
 |(k,r)::l=>H k=r∧q6o H l
theorem qw1{H:Nat->Option SR}:∀{hp:List (Nat×Option SR)},q6o H hp->resF (q8 hp) H=hpF hp
 | [],_=>by funext k;simp[resF,q8,memN,hpF,lkS]
 |(i,r)::l,h=>by
  have ih:=congrFun (qw1 h.2);funext k;have:=ih k;unfold resF memN q8 hpF at this⊢;simp only[Qk,Ze,lkS];by_cases e:i=k
  .subst e
   simp[h.1]
  .rw[zq e,zq λh=>e h.symm,Xw,cond_false]
   exact this
theorem qlc{E:Env}{f:FuncId}{vs:List SV}{i7:List (Nat×Option SR)}{nx0 nx:Nat}{v:SV}{H:Nat->Option SR}(h:qz E f vs nx0 (hpF i7) ⟨v,q8 i7,i7++q9 i7,nx0⟩)(hs:q6o H i7):
  qz E f vs nx H ⟨v,q8 i7,[],nx⟩:=λρ S hS=>by
 have hr:=qw1 hs;simp only[hr]at hS;refine(h ρ S (by simpa only[jb]using hS)).mono ?_;rintro r S' ⟨ρ',rfl,hp⟩;have e:ρ'=ρ:=funext λk=>hp.old k (by simp only;omega);subst e;refine⟨ρ',rfl,λ_ _=>rfl,?_,hp.len,λj hj hn=>?_,λk r hk o ho=>?_⟩
 .have:=hp.sat
  simp only[jb,x3]at this;have e2:chF [] (resF (q8 i7) H)=hpF i7:=by rw[hr];rfl
  simp only[e2];exact this
 .refine hp.fr j hj λk r hk=>?_
  simp only[jb]at hk;exact hn k r (by simp only[hr];exact hk)
 .have e2:chF [] (resF (q8 i7) H)=hpF i7:=by rw[hr];rfl
  simp only[e2]at hk;exact .inr ⟨k,r,by simp only[hr];exact hk,ho⟩
structure LocK (E:Env) (N:Nat) (l:List Oper) (o:Oper) (nx:Nat) (sl:List (Nat×SV)) (H:Nat->Option SR) (k:Ef->Prop):Prop where
 ex:∃e,Loc E N l.toArray o nx sl H e∧k e
theorem locK{E:Env}{N:Nat}{l:List Oper}{o:Oper}{nx:Nat}{sl:List (Nat×SV)}{H:Nat->Option SR}{k:Ef->Prop}(h:opG E N l [] nx sl H k o):LocK E N l o nx sl H k:=⟨q0l h⟩
theorem locX{E:Env}{N:Nat}{l:List Oper}{o:Oper}{nx:Nat}{sl:List (Nat×SV)}{H:Nat->Option SR}{k:Ef->Prop}(h:∃e,Loc E N l.toArray o nx sl H e∧k e):LocK E N l o nx sl H k:=⟨h⟩
def qa3(ks:List Nat):List (Nat×Option SR):=ks.map λk=>(k,none)
def qa5(new:List (Nat×SR)):List (Nat×Option SR):=new.map λp=>(p.1,some p.2)
theorem qz3:∀{ks:List Nat}{k:Nat},lkS (qa3 ks) k=bif memN ks k then some none else none
 | [],_=>rfl
 |i::r,k=>by
  show(bif Qv i k then some none else lkS (qa3 r) k)=_
  rw[qz3];have:memN (i::r) k=(Qv k i||memN r k):=rfl;rw[this];by_cases e:i=k
  .subst e;simp
  .rw[zq e,zq (λh=>e h.symm)]
   rfl
theorem qz4:∀{new:List (Nat×SR)}{k:Nat},lkS (qa5 new) k=(lkS new k).map some
 | [],_=>rfl
 |(i,r)::l,k=>by
  show(bif Qv i k then some (some r)else lkS (qa5 l) k)=_
  rw[qz4]
  show _=Option.map some (bif Qv i k then some r else lkS l k)
  cases Qv i k<;>rfl
theorem zdn{ks:List Nat}{new:List (Nat×SR)}{hp:List (Nat×Option SR)}{k:Nat}{r:SR}(h:hpF (qa3 ks++(qa5 new++hp)) k=some r):memN ks k=false∧(lkS new k=some r∨lkS new k=none∧hpF hp k=some r):=by
 rw[qpk]at h;unfold chF at h;rw[qz3]at h
 cases hm:memN ks k with
 |true=>rw[hm]at h;simp at h
 |false=>
  rw[hm]at h;simp only[cond_false]at h;rw[qpk]at h;unfold chF at h;rw[qz4]at h
  cases hl:lkS new k with
  |some x=>rw[hl]at h;simp at h;subst h;exact⟨rfl,.inl rfl⟩
  |none=>rw[hl]at h;exact⟨rfl,.inr ⟨rfl,h⟩⟩
structure qr5 (ks:List Nat) (new:List (Nat×SR)) (nsl:List (Nat×SV)) (C:Conf) (ρ:Nat->AV) (S:List AObj) (ρ':Nat->AV):Prop where
 old:∀j,j<C.nx->ρ' j=ρ j
 ok:∀j r,lkS new j=some r->r.ok ρ' S (ρ' j)
 loc:∀j r,lkS new j=some r->∀o,o∈qr (ρ' j)->∃k q,memN ks k=true∧hpF C.hp k=some q∧o∈qr (ρ k)
 sep:∀j j' r r',j≠j'->lkS new j=some r->lkS new j'=some r'->∀o,o∈qr (ρ' j)->o∉qr (ρ' j')
 sl:∀d v,lkS nsl d=some v->∃u,lkS C.sl d=some u∧v.ev ρ'=u.ev ρ
def qhd(new:List (Nat×SR))(nsl:List (Nat×SV))(nx nx':Nat):Bool:=
 Zw nx nx'&&new.all (λp=>Zw nx p.1&&Zd p.1 nx'&&p.2.all λk=>Zd k nx')&&nsl.all λq=>q.2.all λk=>Zd k nx'
theorem SatR.swap{S0:List AObj}{F:Nat->Prop}{C:Conf}{ρ ρ' t:Nat->AV}{S:List AObj}{ks:List Nat}{new:List (Nat×SR)}{nsl:List (Nat×SV)}{nx':Nat}(h:SatR S0 F C ρ t S)(hw:qhd new nsl C.nx nx'=true)(hs:qr5 ks new nsl C ρ S ρ'):
  SatR S0 F ⟨nsl++C.sl,qa3 ks++(qa5 new++C.hp),nx'⟩ ρ' t S:=by
 simp only[qhd,Qt]at hw;obtain⟨⟨w1,w2⟩,w3⟩:=hw;have w1:=Qw w1
 have r9:∀{k r},lkS new k=some r->C.nx<=k∧k<nx'∧r.all (λk=>Zd k nx')=true:=λ{k r}hk=>by
  have:=Zb.1 w2 _ (ji hk);simp only[Qt]at this;exact⟨Qw this.1.1,jj this.1.2,this.2⟩
 have fx:∀v:SV,v.all (λk=>Zd k C.nx)=true->v.ev ρ'=v.ev ρ:=λv hv=>xe (λk hk=>hs.old k (jj hk)) v hv;have hρ:∀{k r},hpF C.hp k=some r->ρ' k=ρ k:=λ{k r}hk=>hs.old k (h.whp k r hk).1
 have key:∀{k r},hpF (qa3 ks++(qa5 new++C.hp)) k=some r->lkS new k=some r∨(memN ks k=false∧hpF C.hp k=some r):=λ{k r}hk=>by
  obtain⟨h1,h2⟩:=zdn hk;rcases h2 with h2|⟨_,h2⟩
  .exact .inl h2
  .exact .inr ⟨h1,h2⟩
 have hx:∀{k k' r r'},lkS new k=some r->memN ks k'=false->hpF C.hp k'=some r'->∀o,o∈qr (ρ' k)->o∉qr (ρ k'):=λ{k k' r r'}h1 h2 h3 o ho e7=>by
  obtain⟨j,q,g1,g2,g3⟩:=hs.loc k r h1 o ho;exact h.hp.sep j k' q r' (λe=>by subst e;rw[g1]at h2;simp at h2) g2 h3 o g3 e7
 refine⟨λd v hd=>?_,⟨λk r hk=>?_,λk k' r r' d7 hk bn o ho=>?_⟩,λk r hk o ho=>?_,h.low,h.len,λd v hd=>?_,λk r hk=>?_⟩
 .rw[qbu]at hd
  cases hl:lkS nsl d with
  |some x=>
   rw[hl]at hd;simp only[Qh]at hd;subst hd;obtain⟨u,g1,g2⟩:=hs.sl d x hl
   exact(h.sl d u g1).trans g2.symm
  |none=>
   rw[hl]at hd;exact(h.sl d v hd).trans (fx v (h.wsl d v hd)).symm
 .rcases key hk with h1|⟨_,h1⟩
  .exact hs.ok k r h1
  .rw[hρ h1]
   exact SR.ok_of (h.whp k r h1).2 (λj hj=>hs.old j (jj hj)) (h.hp.ok k r h1) λ_ _=>rfl
 .rcases key hk with h1|⟨m1,h1⟩
  .rcases key bn with h2|⟨m2,h2⟩
   .exact hs.sep k k' r r' d7 h1 h2 o ho
   .rw[hρ h2]
    exact hx h1 m2 h2 o ho
  .rw[hρ h1]at ho
   rcases key bn with h2|⟨m2,h2⟩
   .exactλe7=>hx h2 m1 h1 o e7 ho
   .rw[hρ h2]
    exact h.hp.sep k k' r r' d7 h1 h2 o ho
 .rcases key hk with h1|⟨_,h1⟩
  .obtain⟨j,q,_,g2,g3⟩:=hs.loc k r h1 o ho
   exact h.own j q g2 o g3
  .rw[hρ h1]at ho
   exact h.own k r h1 o ho
 .rw[qbu]at hd
  cases hl:lkS nsl d with
  |some x=>
   rw[hl]at hd;simp only[Qh]at hd;subst hd
   exact Zb.1 w3 _ (ji hl)
  |none=>
   rw[hl]at hd;exact all_mono (λk hk=>xd (Zq (jj hk) w1)) v (h.wsl d v hd)
 .rcases key hk with h1|⟨_,h1⟩
  .exact(r9 h1).2
  .exact⟨Zq (h.whp k r h1).1 w1,SR.all_mono (λk hk=>xd (Zq (jj hk) w1)) r (h.whp k r h1).2⟩
theorem q04{E:Env}{rd:Option Nat}{N:Nat}{B:Bs}{c:Code}{Q:Exit->Conf->Prop}{C:Conf}(ks:List Nat)(new:List (Nat×SR))(nsl:List (Nat×SV))(nx':Nat)(hw:qhd new nsl C.nx nx'=true)
  (hs:∀ρ S,SatF S ρ (hpF C.hp)->∃ρ',qr5 ks new nsl C ρ S ρ') (h:Sm E rd N B c Q ⟨nsl++C.sl,qa3 ks++(qa5 new++C.hp),nx'⟩):Sm E rd N B c Q C:=⟨λs hC=>by
 obtain⟨ρ,hF,hR⟩:=hC;obtain⟨ρ',hs⟩:=hs ρ s.st hR.hp;refine h.run s ⟨ρ',⟨hF.dm,hF.nd,λk hk=>?_,?_,hF.dz⟩,hR.swap hw hs⟩
 .rw[hs.old k (Zq hk hF.le)]
  exact hF.rig k hk
 .simp only[qhd,Qt]at hw
  exact Zg hF.le (Qw hw.1.1)⟩
structure PM where
 o:Nat
 f:List AV
 xs:List AV
def PMok(T Tw:TypeId)(sz:Nat)(S:List AObj)(m:PM)(w:AV):Prop:=S[m.o]?=some (.cells 0 T (m.f++[w]))∧SR.ok (λ_=>zf) S w (.tip sz Tw m.xs)
def vg:List PM->List AV->List AV
 |m::r,w::ws=>.bx m.o 0 0::w::vg r ws
 |_,_=>[]
def qc2(T Tw:TypeId)(sz:Nat)(S:List AObj):List PM->List AV->Prop
 | [],[]=>True
 |m::r,w::ws=>PMok T Tw sz S m w∧qc2 T Tw sz S r ws
 |_,_=>False
theorem qak:∀(a b:List AV),jn (a++b)=jn a++jn b
 | [],_=>rfl
 |c::r,b=>by
  show qr c++jn (r++b)=(qr c++jn r)++jn b
  rw[qak r b,List.append_assoc]
theorem PMok.lt{T Tw:TypeId}{sz:Nat}{S:List AObj}{m:PM}{w:AV}(h:PMok T Tw sz S m w){o:Nat}(ho:o=m.o∨o∈qr w):o<S.length∧S[o]?≠some .dfr:=by
 rcases ho with rfl|ho
 .exact⟨lt_of_getElem? h.1,by rw[h.1];simp⟩
 .exact⟨SR.ok_lt h.2 ho,SR.ok_dfr h.2 ho⟩
theorem PMok.of{T Tw:TypeId}{sz:Nat}{S S':List AObj}{m:PM}{w:AV}(h:PMok T Tw sz S m w)(hs:∀o,o=m.o∨o∈qr w->S'[o]?=S[o]?):PMok T Tw sz S' m w:=
 ⟨(hs _ (.inl rfl)).trans h.1,SR.ok_of (f:=λ_=>true) rfl (λ_ _=>rfl) h.2 λo ho=>hs o (.inr ho)⟩
theorem qf5{T Tw:TypeId}{sz:Nat}{S:List AObj}:∀{ms:List PM}{ws:List AV},qc2 T Tw sz S ms ws->∀o,o∈jn (vg ms ws)->∃m w,PMok T Tw sz S m w∧(o=m.o∨o∈qr w)
 | [],[],_,o,ho=>by simp[vg,jn]at ho
 |m::r,w::ws,h,o,ho=>by
  simp only[vg,jn,qr,Qi,Ql,Qj,Qa]at ho;rcases ho with ho|ho|ho
  .exact⟨m,w,h.1,.inl ho⟩
  .exact⟨m,w,h.1,.inr ho⟩
  .exact qf5 h.2 o ho
theorem qhr{T Tw:TypeId}{sz:Nat}{S S':List AObj}:∀{ms:List PM}{ws:List AV},qc2 T Tw sz S ms ws->(∀o,o∈jn (vg ms ws)->S'[o]?=S[o]?)->qc2 T Tw sz S' ms ws
 | [],[],_,_=>trivial
 |m::r,w::ws,h,hs=>by
  simp only[vg,jn,qr,Qi,Ql,Qj,Qa]at hs;exact⟨h.1.of λo ho=>hs o (by rcases ho with ho|ho;exact .inl ho;exact .inr (.inl ho)),qhr h.2 λo ho=>hs o (.inr (.inr ho))⟩
def pool(T Tw:TypeId)(sz:Nat)(ms:List PM):Clu where
 ok S c _:=∃ws,c=.ag (vg ms ws)∧qc2 T Tw sz S ms ws∧(qr c).Nodup
 lt S c _ h o ho:=by
  obtain⟨ws,rfl,h1,_⟩:=h;obtain⟨m,w,h2,h3⟩:=qf5 h1 o ho;exact(h2.lt h3).1
 nd S c _ h o ho:=by
  obtain⟨ws,rfl,h1,_⟩:=h;obtain⟨m,w,h2,h3⟩:=qf5 h1 o ho;exact(h2.lt h3).2
 st S S' c _ h hs:=by
  obtain⟨ws,rfl,h1,h2⟩:=h;exact⟨ws,rfl,qhr h1 hs,h2⟩
def hole(T Tw:TypeId)(sz:Nat)(a b:List PM)(o:Nat):Clu where
 ok S c l:=l=[.bx o 0 0]∧(pool T Tw sz (a++b)).ok S c []
 lt S c l h:=(pool T Tw sz (a++b)).lt S c [] h.2
 nd S c l h:=(pool T Tw sz (a++b)).nd S c [] h.2
 st S S' c l h hs:=⟨h.1,(pool T Tw sz (a++b)).st S S' c [] h.2 hs⟩
theorem qf6{T Tw:TypeId}{sz:Nat}{S:List AObj}:∀{ms:List PM}{ws:List AV},qc2 T Tw sz S ms ws->ws.length=ms.length
 | [],[],_=>rfl
 |m::r,w::ws,h=>by simp[qf6 h.2]
theorem qit{T Tw:TypeId}{sz:Nat}{S:List AObj}:∀{a b:List PM}{ws:List AV},qc2 T Tw sz S (a++b) ws->∃wa wb,ws=wa++wb∧qc2 T Tw sz S a wa∧qc2 T Tw sz S b wb
 | [],_,ws,h=>⟨[],ws,rfl,trivial,h⟩
 |m::r,b,w::ws,h=>by
  obtain⟨wa,wb,rfl,h1,h2⟩:=qit (a:=r) h.2;exact⟨w::wa,wb,rfl,⟨h.1,h1⟩,h2⟩
theorem qhs{T Tw:TypeId}{sz:Nat}{S:List AObj}:∀{a b:List PM}{wa wb:List AV},qc2 T Tw sz S a wa->qc2 T Tw sz S b wb->qc2 T Tw sz S (a++b) (wa++wb)
 | [],_,[],_,_,h=>h
 |m::r,b,w::wa,wb,h,h2=>⟨h.1,qhs h.2 h2⟩
theorem qcg:∀{a b:List PM}{wa wb:List AV},wa.length=a.length->vg (a++b) (wa++wb)=vg a wa++vg b wb
 | [],_,[],_,_=>rfl
 |m::r,b,w::wa,wb,h=>by
  simp only[Qi,vg];rw[qcg (by simpa using h)]
theorem qw4{E:Env}{rd:Option Nat}{N:Nat}{B:Bs}{c:Code}{Q:Exit->Conf->Prop}{C:Conf}{T Tw:TypeId}{sz:Nat}{a b:List PM}{m:PM}{vs:List SV}(k d:Nat)(svs:List SV)(hk:hpF C.hp k=some (.clu (pool T Tw sz (a++m::b)) vs))(hd:lkS C.sl d=some (.a (.bx m.o 0 0)))(gx:∀ρ,SV.evs ρ svs=m.f)(i6:SV.alls (λ_=>false) svs=true)
  (h:Sm E rd N B c Q ⟨[(d,.bx C.nx 0)]++C.sl,qa3 [k]++(qa5 [(C.nx,.cells T (svs++[.tp (C.nx+1)])),(C.nx+1,.tip sz Tw m.xs),(C.nx+2,.clu (hole T Tw sz a b m.o) [.bx C.nx 0])]++C.hp),C.nx+3⟩):Sm E rd N B c Q C:=by
 have hb:∀j,C.nx<=j->j<C.nx+3->(Zw C.nx j&&Zd j (C.nx+3))=true:=λj h1 h2=>by
  rw[Qt];exact⟨Qs h1,xd h2⟩
 have hal:SV.alls (λk=>Zd k (C.nx+3)) (svs++[.tp (C.nx+1)])=true:=by
  have:∀l:List SV,SV.alls (λ_=>false) l=true->SV.alls (λk=>Zd k (C.nx+3)) (l++[.tp (C.nx+1)])=true:=λl=>by
   induction l with
   |nil=>intro _;simp[SV.alls,SV.all,xd (show C.nx+1<C.nx+3 by omega)]
   |cons x r ih=>
    intro hl;simp only[SV.alls,Qt,Qi]at hl⊢;exact⟨all_mono (λ_ h=>by simp at h) x hl.1,ih hl.2⟩
  exact this svs i6
 refine q04 [k] _ [(d,.bx C.nx 0)] (C.nx+3) ?_ (λρ S hS=>?_) h
 .simp only[qhd,Xp,Xq,Zs,SR.all,SV.alls,SV.all,hal,hb C.nx (Qn _) Om,hb (C.nx+1) Om Om,hb (C.nx+2) Om Om,Qs (show C.nx<=C.nx+3 by omega),xd (show C.nx<C.nx+3 by omega),Qs (Qn C.nx),Bool.true_and]
 .obtain⟨ws,h1,h2,h3⟩:=hS.ok k _ hk
  obtain⟨wa,wb0,rfl,ha,h4⟩:=qit h2
  match wb0,h4 with
  |w::wb,h4=>
  have hla:=qf6 ha;rw[qcg hla,vg]at h1
  have pk:∀o,o∈qr (ρ k)↔(o∈jn (vg a wa)∨o=m.o∨o∈qr w∨o∈jn (vg b wb)):=λo=>by
   rw[h1];simp only[qr,qak,jn,Qa,Qj,Qi,Ql]
  have bv:=h3;rw[h1]at bv;simp only[qr,qak,jn,Qi,Ql]at bv;have hnd2:=bv;rw[Qq]at bv;obtain⟨n1,n2,n3⟩:=bv;rw[Za,Qq]at n2;obtain⟨n4,n5,n6,n7⟩:=n2;simp only[Qa,not_or]at n4
  have fm:qr (.ag (vg (a++b) (wa++wb)))=jn (vg a wa)++jn (vg b wb):=by
   rw[qcg hla];simp only[qr,qak]
  refine⟨upd (upd (upd ρ C.nx (.bx m.o 0 0)) (C.nx+1) w) (C.nx+2) (.ag (vg (a++b) (wa++wb))),?_⟩;have e0:∀x,upd (upd (upd ρ C.nx (.bx m.o 0 0)) (C.nx+1) w) (C.nx+2) x C.nx=.bx m.o 0 0:=λx=>by rw[jq _ _ Om,jq _ _ Om,zi]
  have e1:∀x,upd (upd (upd ρ C.nx (.bx m.o 0 0)) (C.nx+1) w) (C.nx+2) x (C.nx+1)=w:=λx=>by rw[jq _ _ Om,zi]
  have key:∀j r,lkS [(C.nx,SR.cells T (svs++[.tp (C.nx+1)])),(C.nx+1,.tip sz Tw m.xs),(C.nx+2,.clu (hole T Tw sz a b m.o) [.bx C.nx 0])] j=some r->(j=C.nx∧r=.cells T (svs++[.tp (C.nx+1)]))∨(j=C.nx+1∧r=.tip sz Tw m.xs)∨(j=C.nx+2∧r=.clu (hole T Tw sz a b m.o) [.bx C.nx 0]):=λj r hj=>by
   simp only[lkS]at hj;by_cases j0:C.nx=j
   .subst j0
    simp at hj;exact .inl ⟨rfl,hj.symm⟩
   .rw[zq j0]at hj
    by_cases j1:C.nx+1=j
    .subst j1
     simp at hj;exact .inr (.inl ⟨rfl,hj.symm⟩)
    .rw[zq j1]at hj
     by_cases j2:C.nx+2=j
     .subst j2
      simp at hj;exact .inr (.inr ⟨rfl,hj.symm⟩)
     .rw[zq j2]at hj
      simp at hj
  have hw1:tpAt w=w:=qgy h4.1.2;have dv:qr (.bx m.o 0 0)=[m.o]:=rfl;refine⟨λj hj=>?_,λj r hj=>?_,λj r hj o ho=>?_,λj j' r r' d7 hj hj' o ho e7=>?_,λd' v cn=>?_⟩
  .rw[jq _ _ Om,jq _ _ Om,jq _ _ Om]
  .rcases key j r hj with⟨rfl,rfl⟩|⟨rfl,rfl⟩|⟨rfl,rfl⟩
   .rw[e0]
    refine⟨m.o,0,rfl,?_,rfl⟩;rw[h4.1.1,zw,Zy,<-zw,gx];simp only[Qk,Xe,SV.ev,e1,hw1]
   .rw[e1]
    exact h4.1.2
   .rw[zi]
    refine⟨by simp only[SV.evs,SV.ev,e0,bxAt],wa++wb,rfl,qhs ha h4.2,?_⟩;rw[fm,Qq];exact⟨n1,n6,λx hx y hy=>n3 x hx y (Qe _ (Xk _ hy))⟩
  .refine⟨k,_,by simp[memN],hk,(pk o).2 ?_⟩
   rcases key j r hj with⟨rfl,rfl⟩|⟨rfl,rfl⟩|⟨rfl,rfl⟩
   .rw[e0,dv,Qc]at ho
    exact .inr (.inl ho)
   .rw[e1]at ho
    exact .inr (.inr (.inl ho))
   .rw[zi,fm,Qa]at ho
    exact ho.elim .inl λh=>.inr (.inr (.inr h))
  .rcases key j r hj with⟨rfl,rfl⟩|⟨rfl,rfl⟩|⟨rfl,rfl⟩<;>rcases key j' r' hj' with⟨rfl,rfl⟩|⟨rfl,rfl⟩|⟨rfl,rfl⟩
   .exact d7 rfl
   .rw[e0,dv,Qc]at ho
    rw[e1]at e7;subst ho;exact n4.1 e7
   .rw[e0,dv,Qc]at ho
    rw[zi,fm,Qa]at e7;subst ho;exact e7.elim (λh=>n3 _ h _ (Qp ..) rfl) n4.2
   .rw[e0,dv,Qc]at e7
    rw[e1]at ho;subst e7;exact n4.1 ho
   .exact d7 rfl
   .rw[e1]at ho
    rw[zi,fm,Qa]at e7;exact e7.elim (λh=>n3 _ h _ (Qe _ (Zm _ ho)) rfl) λh=>n7 _ ho _ h rfl
   .rw[e0,dv,Qc]at e7
    rw[zi,fm,Qa]at ho;subst e7;exact ho.elim (λh=>n3 _ h _ (Qp ..) rfl) n4.2
   .rw[e1]at e7
    rw[zi,fm,Qa]at ho;exact ho.elim (λh=>n3 _ h _ (Qe _ (Zm _ e7)) rfl) λh=>n7 _ e7 _ h rfl
   .exact d7 rfl
  .simp only[lkS]at cn
   by_cases e:d=d'
   .subst e
    simp at cn;subst cn;exact⟨_,hd,by simp only[SV.ev,e0,bxAt]⟩
   .rw[zq e]at cn
    simp at cn
theorem zal{ρ:Nat->AV}{S:List AObj}{sz:Nat}{T:TypeId}{xs:List AV}{c:AV}(h:SR.ok ρ S c (.tip sz T xs)):(qr c).Nodup:=by
 rcases h with(⟨_,rfl⟩|⟨t,rfl,_,_⟩)|⟨_,o',v,f,rfl⟩<;>simp[qr]
theorem quh{C:Conf}{T Tw:TypeId}{sz:Nat}{a b:List PM}{f xs:List AV}{o:Nat}(n n2:Nat)(ks:List Nat)(svs:List SV)(last:SV)(h0:hpF C.hp n=some (.cells T (svs++[last])))(h2:hpF C.hp n2=some (.clu (hole T Tw sz a b o) [.bx n 0]))(d7:n≠n2)(hm:memN ks n=true)(rp:memN ks n2=true)(gx:∀ρ,SV.evs ρ svs=f)
  (m9:∀ρ S,SatF S ρ (hpF C.hp)->SR.ok (λ_=>zf) S (last.ev ρ) (.tip sz Tw xs)∧(qr (last.ev ρ)=[]∨∃n1 q,memN ks n1=true∧n1≠n∧n1≠n2∧hpF C.hp n1=some q∧last.ev ρ=ρ n1)):
  qhd [(C.nx,.clu (pool T Tw sz (a++⟨o,f,xs⟩::b)) [])] [] C.nx (C.nx+1)=true∧∀ρ S,SatF S ρ (hpF C.hp)->∃ρ',qr5 ks [(C.nx,.clu (pool T Tw sz (a++⟨o,f,xs⟩::b)) [])] [] C ρ S ρ':=by
 refine⟨?_,λρ S hS=>?_⟩
 .simp only[qhd,Xp,Xq,Zs,SR.all,SV.alls,Qs (show C.nx<=C.nx+1 by omega),Qs (Qn C.nx),xd (show C.nx<C.nx+1 by omega)]
 .obtain⟨o',v',e1,e2,rfl⟩:=hS.ok n _ h0
  obtain⟨e3,ws,e4,e5,e6⟩:=hS.ok n2 _ h2;obtain⟨l1,l2⟩:=m9 ρ S hS
  have ho:o'=o:=by
   simp only[SV.evs,SV.ev,e1,bxAt,Zh,AV.bx.injEq,and_true]at e3;exact e3
  subst ho;obtain⟨wa,wb,rfl,ha,hb⟩:=qit e5;have hla:=qf6 ha;rw[qcg hla]at e4
  have lk:qr (ρ n2)=jn (vg a wa)++jn (vg b wb):=by
   rw[e4];simp only[qr,qak]
  rw[lk,Qq]at e6;obtain⟨n1,n2',n3⟩:=e6;have pk:qr (ρ n)=[o']:=by rw[e1];rfl
  have hx:o'∉qr (ρ n2):=hS.sep n n2 _ _ d7 h0 h2 o' (by rw[pk];simp);rw[lk,Qa,not_or]at hx
  have hw:∀j,j∈qr (last.ev ρ)->j≠o'∧j∉jn (vg a wa)∧j∉jn (vg b wb)∧∃k q,memN ks k=true∧hpF C.hp k=some q∧j∈qr (ρ k):=λj hj=>by
   rcases l2 with l2|⟨n1,q,g1,g2,g3,g4,g5⟩
   .rw[l2]at hj
    simp at hj
   .rw[g5]at hj
    have h1:=hS.sep n1 n _ _ g2 g4 h0 j hj;have h3:=hS.sep n1 n2 _ _ g3 g4 h2 j hj;rw[pk,Qc]at h1;rw[lk,Qa,not_or]at h3;exact⟨h1,h3.1,h3.2,n1,q,g1,g4,hj⟩
  have key:∀j r,lkS [(C.nx,SR.clu (pool T Tw sz (a++⟨o',f,xs⟩::b)) [])] j=some r->j=C.nx∧r=.clu (pool T Tw sz (a++⟨o',f,xs⟩::b)) []:=λj r hj=>by
   simp only[lkS]at hj;by_cases j0:C.nx=j
   .subst j0
    simp at hj;exact⟨rfl,hj.symm⟩
   .rw[zq j0]at hj
    simp at hj
  have r9:qr (.ag (vg (a++⟨o',f,xs⟩::b) (wa++last.ev ρ::wb)))=jn (vg a wa)++(o'::(qr (last.ev ρ)++jn (vg b wb))):=by
   rw[qcg hla];simp only[qr,qak,vg,jn,Qi,Ql]
  refine⟨upd ρ C.nx (.ag (vg (a++⟨o',f,xs⟩::b) (wa++last.ev ρ::wb))),⟨λj hj=>jq _ _ Om,λj r hj=>?_,λj r hj k hk=>?_,λj j' r r' hne' hj hj'=>absurd ((key j r hj).1.trans (key j' r' hj').1.symm) hne',λd v hd=>by simp[lkS]at hd⟩⟩
  .obtain⟨rfl,rfl⟩:=key j r hj
   rw[zi];refine⟨wa++last.ev ρ::wb,rfl,qhs ha ⟨⟨?_,l1⟩,hb⟩,?_⟩
   .rw[e2,zw,Zy,<-zw,gx]
    rfl
   .rw[r9,Qq,Za,Qq]
    refine⟨n1,⟨?_,zal l1,n2',λx sr y hy e=>(hw x sr).2.2.1 (e▸hy)⟩,λx sr y hy e=>?_⟩
    .rw[Qa,not_or]
     exact⟨λhj=>(hw _ hj).1 rfl,hx.2⟩
    .subst e
     rw[Qj,Qa]at hy;rcases hy with hy|hy|hy
     .exact hx.1 (hy▸sr)
     .exact(hw _ hy).2.1 sr
     .exact n3 x sr x hy rfl
  .obtain⟨rfl,rfl⟩:=key j r hj
   rw[zi,r9,Qa,Qj,Qa]at hk;rcases hk with hk|hk|hk|hk
   .exact⟨n2,_,rp,h2,by rw[lk];exact Zm _ hk⟩
   .exact⟨n,_,hm,h0,by rw[pk,hk];simp⟩
   .exact(hw k hk).2.2.2
   .exact⟨n2,_,rp,h2,by rw[lk];exact Xk _ hk⟩
theorem zgk{E:Env}{rd:Option Nat}{N:Nat}{B:Bs}{c:Code}{Q:Exit->Conf->Prop}{C:Conf}{T Tw:TypeId}{sz:Nat}{a b:List PM}{f xs:List AV}{o:Nat}(n n2:Nat)(ks:List Nat)(svs:List SV)(last:SV)(h0:hpF C.hp n=some (.cells T (svs++[last])))(h2:hpF C.hp n2=some (.clu (hole T Tw sz a b o) [.bx n 0]))(d7:n≠n2)(hm:memN ks n=true)(rp:memN ks n2=true)(gx:∀ρ,SV.evs ρ svs=f)
  (m9:∀ρ S,SatF S ρ (hpF C.hp)->SR.ok (λ_=>zf) S (last.ev ρ) (.tip sz Tw xs)∧(qr (last.ev ρ)=[]∨∃n1 q,memN ks n1=true∧n1≠n∧n1≠n2∧hpF C.hp n1=some q∧last.ev ρ=ρ n1))
  (h:Sm E rd N B c Q ⟨C.sl,qa3 ks++(qa5 [(C.nx,.clu (pool T Tw sz (a++⟨o,f,xs⟩::b)) [])]++C.hp),C.nx+1⟩):Sm E rd N B c Q C:=
 q04 ks _ [] (C.nx+1) (quh n n2 ks svs last h0 h2 d7 hm rp gx m9).1 (quh n n2 ks svs last h0 h2 d7 hm rp gx m9).2 h
structure Red (n0:Nat) (C C1:Conf):Prop where
 run:∀S0 F ρ t S,n0<=C.nx->SatR S0 F C ρ t S->∃ρ',(∀k,k<n0->ρ' k=ρ k)∧SatR S0 F C1 ρ' t S
theorem qm3{n0:Nat}{C:Conf}:Red n0 C C:=⟨λ_ _ ρ _ _ _ h=>⟨ρ,λ_ _=>rfl,h⟩⟩
theorem zgc{n0:Nat}{C C1:Conf}{T Tw:TypeId}{sz:Nat}{a b:List PM}{f xs:List AV}{o:Nat}(n n1 n2:Nat)(svs:List SV)(h0:hpF C.hp n=some (.cells T (svs++[.tp n1])))(h1:hpF C.hp n1=some (.tip sz Tw xs))(h2:hpF C.hp n2=some (.clu (hole T Tw sz a b o) [.bx n 0]))(d7:(Qv n n2||Qv n1 n||Qv n1 n2)=false)(gx:∀ρ,SV.evs ρ svs=f)
  (h:Red n0 ⟨C.sl,qa3 [n,n1,n2]++(qa5 [(C.nx,.clu (pool T Tw sz (a++⟨o,f,xs⟩::b)) [])]++C.hp),C.nx+1⟩ C1):Red n0 C C1:=by
 simp only[Bool.or_eq_false_iff]at d7;have e:∀{i j:Nat},Qv i j=false->i≠j:=λ{i j}h e=>by subst e;simp at h
 obtain⟨hw,hs⟩:=quh (C:=C) (xs:=xs) n n2 [n,n1,n2] svs (.tp n1) h0 h2 (e d7.1.1) (by simp[memN]) (by simp[memN]) gx (λρ S hS=>by
  have hok:SR.ok (λ_=>zf) S (ρ n1) (.tip sz Tw xs):=hS.ok n1 _ h1;have ht:tpAt (ρ n1)=ρ n1:=qgy hok
  exact⟨by simp only[SV.ev,ht];exact hok,.inr ⟨n1,_,by simp[memN],e d7.1.2,e d7.2,h1,by simp only[SV.ev,ht]⟩⟩)
 refine⟨λS0 F ρ t S hn hR=>?_⟩;obtain⟨ρ',bz⟩:=hs ρ S hR.hp;obtain⟨ρ2,g1,g2⟩:=h.run S0 F ρ' t S (by simp only;omega) (hR.swap hw bz);exact⟨ρ2,λk hk=>(g1 k hk).trans (bz.old k Om),g2⟩
theorem zc6{n0:Nat}{C C1:Conf}{T Tw:TypeId}{sz:Nat}{a b:List PM}{f:List AV}{o:Nat}(n n2:Nat)(svs:List SV)(h0:hpF C.hp n=some (.cells T (svs++[.a zf])))(h2:hpF C.hp n2=some (.clu (hole T Tw sz a b o) [.bx n 0]))(d7:Qv n n2=false)(gx:∀ρ,SV.evs ρ svs=f)
  (h:Red n0 ⟨C.sl,qa3 [n,n2]++(qa5 [(C.nx,.clu (pool T Tw sz (a++⟨o,f,[]⟩::b)) [])]++C.hp),C.nx+1⟩ C1):Red n0 C C1:=by
 obtain⟨hw,hs⟩:=quh (C:=C) (xs:=[]) n n2 [n,n2] svs (.a zf) h0 h2 (λe=>by subst e;simp at d7) (by simp[memN]) (by simp[memN]) gx (λρ S hS=>⟨qgx 0 S sz Tw,.inl rfl⟩);refine⟨λS0 F ρ t S hn hR=>?_⟩;obtain⟨ρ',bz⟩:=hs ρ S hR.hp;obtain⟨ρ2,g1,g2⟩:=h.run S0 F ρ' t S (by simp only;omega) (hR.swap hw bz);exact⟨ρ2,λk hk=>(g1 k hk).trans (bz.old k Om),g2⟩
theorem q05{E:Env}{rd:Option Nat}{N:Nat}{B:Bs}{c:Code}{Q:Exit->Conf->Prop}{C:Conf}{T Tw:TypeId}{sz:Nat}{a b:List PM}{f:List AV}{o:Nat}(n n2:Nat)(svs:List SV)(h0:hpF C.hp n=some (.cells T (svs++[.a zf])))(h2:hpF C.hp n2=some (.clu (hole T Tw sz a b o) [.bx n 0]))(d7:Qv n n2=false)(gx:∀ρ,SV.evs ρ svs=f)
  (h:Sm E rd N B c Q ⟨C.sl,qa3 [n,n2]++(qa5 [(C.nx,.clu (pool T Tw sz (a++⟨o,f,[]⟩::b)) [])]++C.hp),C.nx+1⟩):Sm E rd N B c Q C:=
 zgk n n2 [n,n2] svs (.a zf) h0 h2 (λe=>by subst e;simp at d7) (by simp[memN]) (by simp[memN]) gx (λρ S hS=>⟨qgx 0 S sz Tw,.inl rfl⟩) h
end Go.Av
namespace Go.Proofs.YthnbabbhpeebbaaGreatDoor
open Go Go.Av Go.RowKit Go.Proofs Go.Pl
structure qr4 (l:zo):Prop where
 lb:LB 300040 l
 li:LI l
 lm:LM l
theorem qr4.its{l:zo}(h:qr4 l):ItsB (qji l):=zfl h.lb h.li
theorem qr4.txt{l:zo}(h:qr4 l):(q6w l).length<=1000000000000:=zdq h.lb h.li
end Go.Proofs.YthnbabbhpeebbaaGreatDoor
namespace Go.Av
open Go Go.RowKit
structure AWpB (E:Env) (rd:Option Nat) (N:Nat) (c:Code) (Q:Exit->AS->Prop) (s:AS):Prop where
 run:∀(B0:Nat)(w0:World)(G:Gh)(a:Act)(w:World),E.L B0 w0->Inv B0 w0 N G s a w->∀(b:Frame)(k:List Item)(cs:List Frame),b.roundOf=(fw rd).round->(fw rd).fn b.fn->(fw rd).room (cs.length+1+0)->
  ∃e a' w',(∃(G':Gh)(s':AS),G.le G'∧Inv B0 w0 N G' s' a' w'∧Q e s')∧ArrivesIn (Machine.fenced E.P (fw rd)) E.P (lone (b.atR a (.code c:: .inLoop c::k)) cs w) b k cs e a' w'
theorem q4y{E:Env}{rd:Option Nat}{N:Nat}{c:Code}{Q:Exit->AS->Prop}{s:AS}(h:AWp E rd N c (quf (AWpB E rd N c Q) Q) s):AWpB E rd N c Q s:=by
 refine⟨λB0 w0 G a w hL hI b k cs hro hb i9=>?_⟩;obtain⟨e,a1,w1,⟨G1,s1,hG,nj,hQ⟩,ck⟩:=h.run B0 w0 G a w hL hI b (.inLoop c::k) cs hro hb i9
 cases e with
 |normal=>
  obtain⟨e2,a2,w2,⟨G2,s2,sw,rv,hQ2⟩,harr2⟩:=hQ.run B0 w0 G1 a1 w1 hL nj b k cs hro hb i9
  exact⟨e2,a2,w2,⟨G2,s2,hG.trans sw,rv,hQ2⟩,.of_steps (StepsIn.trans ck (.one (fenced_calm hb i9 rfl) stepR_inLoop)) harr2⟩
 |exit id=>exact⟨_,a1,w1,⟨G1,s1,hG,nj,hQ⟩,.pass (x:=.inLoop c) rfl (λ_ _=>.inl Sx) ck⟩
 |goto l=>exact⟨_,a1,w1,⟨G1,s1,hG,nj,hQ⟩,.pass (x:=.inLoop c) rfl (λ_ _=>.inl Sx) ck⟩
 |ret=>exact⟨_,a1,w1,⟨G1,s1,hG,nj,hQ⟩,.pass (x:=.inLoop c) rfl (λ_ _=>.inl Sx) ck⟩
 |panic ch=>exact⟨_,a1,w1,⟨G1,s1,hG,nj,hQ⟩,.pass (x:=.inLoop c) rfl (λ_ _=>.inl Sx) ck⟩
 |outgrown=>exact⟨_,a1,w1,⟨G1,s1,hG,nj,hQ⟩,.pass (x:=.inLoop c) rfl (λ_ _=>.inl Sx) ck⟩
theorem q7g{E:Env}{rd:Option Nat}{N:Nat}{c:Code}{Q:Exit->AS->Prop}{s:AS}(h:AWpB E rd N c Q s):AWp E rd N (.loop c) Q s:=by
 refine⟨λB0 w0 G a w hL hI b k cs hro hb i9=>?_⟩;obtain⟨e,a',w',hq,ck⟩:=h.run B0 w0 G a w hL hI b k cs hro hb i9;exact⟨e,a',w',hq,.of_steps (.one (fenced_calm hb i9 rfl) stepR_loop) ck⟩
structure SmB (E:Env) (rd:Option Nat) (N:Nat) (B:Bs) (c:Code) (Q:Exit->Conf->Prop) (C:Conf):Prop where
 run:∀s,SatC B C s->AWpB E rd N c (λe s'=>∃C',Q e C'∧SatC B C' s') s
theorem qee{E:Env}{rd:Option Nat}{N:Nat}{B:Bs}{C:Conf}{Q:Exit->Conf->Prop}{c:Code}(h:Sm E rd N B c (qx2 (SmB E rd N B c Q) Q) C):SmB E rd N B c Q C:=⟨λs hs=>
 q4y ((h.run s hs).mono λe s' ⟨C',hq,bz⟩=>by
  cases e with
  |normal=>exact hq.run s' bz
  |_=>exact⟨C',hq,bz⟩)⟩
theorem qow{E:Env}{rd:Option Nat}{N:Nat}{B:Bs}{C:Conf}{Q:Exit->Conf->Prop}{c:Code}(h:SmB E rd N B c Q C):Sm E rd N B (.loop c) Q C:=⟨λs hs=>q7g (h.run s hs)⟩
def qlt(E:Env)(N:Nat)(l:List Oper):Nat->List Oper->(Conf->Prop)->Conf->Prop
 |_,[],K,C=>K C
 |i,o::r,K,⟨sl,hp,nx⟩=>LocK E N l o nx sl (hpF hp) (gdW (isGd i l) (fcE (qis sl hp nx o.dst (qlt E N l (i+1) r K))))
theorem qo7{E:Env}{rd:Option Nat}{N:Nat}{l:List Oper}{B:Bs}{K:Conf->Prop}:∀{r:List Oper}{i:Nat}{C:Conf}{s:AS},qlt E N l i r K C->SatC B C s->AOps E rd N l.toArray r (λs'=>∃C',K C'∧SatC B C' s') s
 | [],_,C,s,h,hs=>qh ⟨C,h,hs⟩
 |o::r,i,⟨sl,hp,nx⟩,s,h,hs=>by
  obtain⟨e,hL,h⟩:=h.ex;obtain⟨e,hL,h⟩:=qtf hL h;rw[qs9]at h;obtain⟨hw,h⟩:=qjo h;obtain⟨t,S,df⟩:=s;obtain⟨ρ,i5,hR⟩:=hs;simp only at i5 hR;refine hL _ rd _ r ρ t S hR.sl (hR.hp.res _) λρ' S' hp=>qo7 h ⟨ρ',?_,?_⟩
  .have:=i5.step (d:=o.dst) hR.hp hw hp
   cases hd:o.dst with
   |none=>rw[hd]at this;exact this
   |some d=>rw[hd]at this;exact this
  .have:=hR.step (d:=o.dst) hw hp
   cases hd:o.dst with
   |none=>rw[hd]at this;exact this
   |some d=>rw[hd]at this;exact this
section
variable {E : Env} {rd : Option Nat} {N : Nat} {B : Bs} {C : Conf} {Q : Exit → Conf → Prop}
theorem qae{id:Nat}{ops:Array Oper}(h:qlt E N ops.toList 0 ops.toList (Q .normal) C):Sm E rd N B (.region id ops false) Q C:=⟨λs hs=>by
 have e:ops=ops.toList.toArray:=Sx
 rw[e]
 exact qi (qo7 h hs)⟩
theorem v6(bxs:List Nat){id:Nat}{ops:Array Oper}(h:quk E N ops.toList bxs 0 ops.toList (Q .normal) C):Sm E rd N B (.region id ops false) Q C:=⟨λs hs=>by
 have e:ops=ops.toList.toArray:=Sx
 rw[e]
 exact qi (qr3 h hs)⟩
def wpD(E:Env)(rd:Option Nat)(N:Nat)(B:Bs):Code->(Exit->Conf->Prop)->Conf->Prop
 |.skip,Q,C=>Q .normal C
 |.seq x y,Q,C=>wpD E rd N B x (qx2 (wpD E rd N B y Q) Q) C
 |.cond c x y,Q,C=>(match sval N C.sl c with
  |some v=>wayW (wpD E rd N B x Q C) (wpD E rd N B y Q C) v
  |none=>False)
 |.block id c,Q,C=>wpD E rd N B c (qmj id Q) C
 |.exit id,Q,C=>Q (.exit id) C
 |.ret,Q,C=>Q .ret C
 |c,Q,C=>Sm E rd N B c Q C
theorem jp:∀{c:Code}{Q:Exit->Conf->Prop}{C:Conf},wpD E rd N B c Q C->Sm E rd N B c Q C
 |.skip,Q,C,h=>⟨λs hs=>za ⟨C,h,hs⟩⟩
 |.exit id,Q,C,h=>⟨λs hs=>wd ⟨C,h,hs⟩⟩
 |.ret,Q,C,h=>⟨λs hs=>q7 ⟨C,h,hs⟩⟩
 |.seq x y,Q,C,h=>q35 (qru (jp (c:=x) h) λe C' hq=>by
   cases e with
   |normal=>exact jp (c:=y) hq
   |_=>exact hq)
 |.block id c,Q,C,h=>qw3 (jp (c:=c) h)
 |.cond c x y,Q,C,h=>by
  simp only[wpD]at h;split at h
  .rename_i v hv
   exact q03 hv (qxc (λh=>jp (c:=x) h) (λh=>jp (c:=y) h) h)
  .exact h.elim
 |.region id ops b,Q,C,h=>by cases b<;>exact h
 |.loop c,Q,C,h=>h
 |.rangeFunc _ _ _ _,Q,C,h=>h
 |.scope _,Q,C,h=>h
 |.label _,Q,C,h=>h
 |.goto _,Q,C,h=>h
 |.refuse _,Q,C,h=>h
end
end Go.Av
namespace Go.Av
open Go Go.RowKit
structure ziw (kvs:List (Value×Value)) (vis:List Nat) (S:List AObj) (oi om:Nat):Prop where
 ex:∃es clock seen,S[om]?=some (.map es clock)∧S[oi]?=some (.iter (.mp om) clock seen clock)∧es.map kvE=kvs∧qb4 es clock∧(∀(i:Nat)(e:MapEntry),es[i]?=some e->(e.born∈seen↔i∈vis))∧∀i,vis.getLast?=some i->∃(e:MapEntry)(s0:Array Nat),es[i]?=some e∧seen=s0.push e.born
def qdu(kvs:List (Value×Value))(vis:List Nat):Clu where
 ok S c l:=∃oi om,l=[.bx oi 0 0,.mp om]∧c=.ag [.bx oi 0 0,.mp om]∧ziw kvs vis S oi om
 lt S c l h o ho:=by
  obtain⟨oi,om,_,rfl,⟨es,clock,seen,h1,h2,_⟩⟩:=h;simp only[qr,jn,Zi,Qi,Ql,Qj,Xf,or_false]at ho;rcases ho with rfl|rfl
  .exact lt_of_getElem? h2
  .exact lt_of_getElem? h1
 nd S c l h o ho:=by
  obtain⟨oi,om,_,rfl,⟨es,clock,seen,h1,h2,_⟩⟩:=h;simp only[qr,jn,Zi,Qi,Ql,Qj,Xf,or_false]at ho;rcases ho with rfl|rfl
  .rw[h2];simp
  .rw[h1];simp
 st S S' c l h hs:=by
  obtain⟨oi,om,e1,rfl,⟨es,clock,seen,h1,h2,h3⟩⟩:=h;have g1:=hs oi (by simp[qr,jn]);have g2:=hs om (by simp[qr,jn]);exact⟨oi,om,e1,rfl,⟨es,clock,seen,g2.trans h1,g1.trans h2,h3⟩⟩
theorem q8j{es:List MapEntry}{clock:Nat}(h:qb4 es clock){i j:Nat}{a b:MapEntry}(hi:es[i]?=some a)(hj:es[j]?=some b)(e:a.born=b.born):i=j:=by
 have h1:=Zp.1 h.up;obtain⟨li,rfl⟩:=Qy.1 hi;obtain⟨lj,rfl⟩:=Qy.1 hj;rcases Nat.lt_trichotomy i j with g|g|g
 .have:=h1 i j li lj g
  omega
 .exact g
 .have:=h1 j i lj li g
  omega
section
variable {E : Env} {N : Nat} {ops : Array Oper} {nx : Nat} {sl : List (Nat × SV)} {H : Nat → Option SR} {k : Ef → Prop} {d : Option Tmp} {T : TypeId} {p : String} {af : Array Edge}
theorem q8z{t kt vt:TypeId}{x:Operand}{b:Nat}{kvs:List (Value×Value)}(hx:sval N sl x=some (.tp b))(hH:H b=some (.obj (mapP kvs)))(hu:E.P.underlying t=some (.map kt vt))(hb:Zd b nx=true)
  (h:k ⟨.bx nx 0,[b],[(b,none),(nx+1,some (.clu (qdu kvs []) [.bx nx 0,.tp b]))],nx+2⟩):∃e,Loc E N ops ⟨d,.range t x,T,p,af,none⟩ nx sl H e∧k e:=by
 have hb:=jj hb;refine⟨_,λdf rd K rest ρ t' S hs hS hk=>?_,h⟩;obtain⟨o,x',h1,h2,_,⟨es,clock,rfl,rfl,t6⟩,o',e1⟩:=hS.ok b _ ((z8 b).trans hH);rw[e1]at h1;simp only[qr,Zh,and_true]at h1;subst h1;refine q1v ((qs hs hx).trans (by simp[SV.ev,e1,tpAt,AV.one])) h2 hu ?_
 have key:∀k r,chF [(b,none),(nx+1,some (.clu (qdu (es.map kvE) []) [.bx nx 0,.tp b]))] (resF [b] H) k=some r->k=nx+1∧r=.clu (qdu (es.map kvE) []) [.bx nx 0,.tp b]:=λk r hk=>by
  simp only[chF,lkS]at hk;by_cases q:b=k
  .subst q
   simp at hk
  .rw[zq q]at hk
   simp only[cond_false]at hk;by_cases q2:nx+1=k
   .subst q2
    simp at hk;exact⟨rfl,hk.symm⟩
   .rw[zq q2]at hk
    have:=(jv hk).1;simp only[memN,Ze,Zr,Zn]at this;exact absurd (Qx this).symm q
 have e0:upd (upd ρ nx (.bx S.length 0 0)) (nx+1) (.ag [.bx S.length 0 0,.mp o']) nx=.bx S.length 0 0:=by rw[jq _ _ Om,zi]
 have:=hk (upd (upd ρ nx (.bx S.length 0 0)) (nx+1) (.ag [.bx S.length 0 0,.mp o'])) (S++[.iter (.mp o') clock #[] clock])
  ⟨λj hj=>by simp only at hj;rw[jq _ _ Om,jq _ _ Om],⟨λk r hk=>?_,λk k' r r' d7 g1 g2=>absurd ((key k r g1).1.trans (key k' r' g2).1.symm) d7⟩,Sx,λj hj _=>Qr hj,λk r hk o ho=>?_⟩
 .simpa[SV.ev,e0,bxAt]using this
 .obtain⟨rfl,rfl⟩:=key k r hk
  rw[zi];refine⟨S.length,o',?_,rfl,⟨es,clock,#[],?_,we,rfl,t6,λi e _=>by simp,λi hi=>by simp at hi⟩⟩
  .simp only[SV.evs,SV.ev,e0,bxAt]
   rw[jq _ _ Om,jq _ _ Om,e1];rfl
  .rw[Qr (lt_of_getElem? h2)]
   exact h2
 .obtain⟨rfl,rfl⟩:=key k r hk
  rw[zi]at ho;simp only[qr,jn,Zi,Qi,Ql,Qj,Xf,or_false]at ho;rcases ho with rfl|rfl
  .exact .inl (Qn _)
  .exact .inr ⟨b,_,(z8 b).trans hH,by rw[e1];simp[qr]⟩
end
section
variable {E : Env} {N : Nat} {ops : Array Oper} {nx : Nat} {sl : List (Nat × SV)} {H : Nat → Option SR} {k : Ef → Prop} {d : Option Tmp} {T : TypeId} {p : String} {af : Array Edge}
theorem zfx{t u kt vt:TypeId}{kd:TypeDesc}{x y:Operand}{b:Nat}{kvs:List (Value×Value)}{v:SV}{kv:Value}{r:Option (Nat×Value)}(hx:sval N sl x=some (.tp b))(hH:H b=some (.obj (mapP kvs)))(hy:sval N sl y=some v)(hv:∀ρ,v.ev ρ=.v kv)
  (hu:E.P.underlying t=some (.map kt vt)) (hk:E.P.underlying kt=some kd) (r7:mkey kd kv=true) (hf:yx kd kv kvs 0=some r)
  (h:k ⟨.tu [],[b],[(b,some (.obj (mapP (mdel kvs r))))],nx⟩):∃e,Loc E N ops ⟨d,.call ⟨.builtin .delete,#[x,y],#[t,u]⟩,T,p,af,none⟩ nx sl H e∧k e:=by
 refine⟨_,λdf rd K rest ρ t' S hs hS gv=>?_,h⟩;obtain⟨o,x',h1,h2,_,⟨es,clock,rfl,rfl,t6⟩,o',e1⟩:=hS.ok b _ ((z8 b).trans hH);rw[e1]at h1;simp only[qr,Zh,and_true]at h1;subst h1;refine q1t (o:=o') ((qs hs hx).trans (by simp[SV.ev,e1,tpAt,AV.one])) ((qs hs hy).trans (hv ρ)) h2 hu hk r7 hf ?_
 have key:∀k r',chF [(b,some (.obj (mapP (mdel (es.map kvE) r))))] (resF [b] H) k=some r'->k=b∧r'=.obj (mapP (mdel (es.map kvE) r)):=λk r' hk=>by
  simp only[chF,lkS]at hk;by_cases e:b=k
  .subst e
   have:Qv b b=true:=Sx
   rw[this]at hk;simp only[cond_true,Qh]at hk;exact⟨rfl,hk.symm⟩
  .rw[zq e]at hk
   have:=(jv hk).1;simp only[memN,Ze,Zr,Zn]at this;exact absurd (Qx this).symm e
 refine gv ρ _ ⟨λ_ _=>rfl,⟨λk r' hk=>?_,λk k' r1 r2 d7 g1 g2=>?_⟩,Sx,λj hj d7=>?_,λk r' hk o e7=>?_⟩
 .obtain⟨rfl,rfl⟩:=key k r' hk
  exact⟨o',_,by rw[e1];rfl,yz h2,Sx,⟨_,_,rfl,zch _ _ _,t6.del _⟩,o',e1⟩
 .exact absurd ((key k r1 g1).1.trans (key k' r2 g2).1.symm) d7
 .have:=d7 b _ ((z8 b).trans hH)
  rw[e1]at this;exact Zz (λe=>this (by rw[e];exact Qc.2 rfl))
 .obtain⟨rfl,rfl⟩:=key k r' hk
  exact .inr ⟨k,_,(z8 k).trans hH,e7⟩
end
section
variable {E : Env}
theorem qss{f:FuncId}{b nx:Nat}{H:Nat->Option SR}{kvs:List (Value×Value)}(hH:H b=some (.obj (mapP kvs)))(hb:Zd b nx=true)
  (h:∀(st:List AObj)(o clock:Nat)(es:List MapEntry),st[o]?=some (.map es clock)->qm E f [.mp o] st λr st'=>r=.mp st.length∧st'=st++[.map es clock]):
  qz E f [.tp b] nx H ⟨.tp nx,[b],[(nx,some (.obj (mapP kvs)))],nx+1⟩:=λρ S hS=>by
 have hb:=jj hb;obtain⟨o,x',h1,h2,_,⟨es,clock,rfl,rfl,t6⟩,o',e1⟩:=hS.ok b _ ((z8 b).trans hH);rw[e1]at h1;simp only[qr,Zh,and_true]at h1;subst h1;have e:SV.evs ρ [.tp b]=[.mp o']:=by simp[SV.evs,SV.ev,e1,tpAt,AV.one]
 rw[e];refine(h S o' clock es h2).mono λr S' hr=>⟨upd ρ nx r,?_,?_⟩
 .obtain⟨rfl,rfl⟩:=hr
  simp[SV.ev,zi,tpAt,AV.one]
 .obtain⟨rfl,rfl⟩:=hr
  have key:∀k q,chF [(nx,some (SR.obj (mapP (es.map kvE))))] (resF [b] H) k=some q->(k=nx∧q=.obj (mapP (es.map kvE)))∨(k≠nx∧resF [b] H k=some q):=λk q hk=>by
   simp only[chF,lkS]at hk;by_cases q1:nx=k
   .subst q1
    simp at hk;exact .inl ⟨rfl,hk.symm⟩
   .rw[zq q1]at hk
    exact .inr ⟨λe=>q1 e.symm,hk⟩
  have hbn:∀{k q},resF [b] H k=some q->k=b:=λ{k q}hk=>by
   have:=(jv hk).1;simp only[memN,Ze,Zr,Zn]at this;exact Qx this
  refine⟨λk hk=>jq _ _ (by simp only at hk;omega),⟨λk q hk=>?_,λk k' q q' d7 g1 g2 i hi sc=>?_⟩,Sx,λj hj _=>Qr hj,λk q hk i hi=>?_⟩
  .rcases key k q hk with⟨rfl,rfl⟩|⟨n1,n2⟩
   .rw[zi]
    exact⟨S.length,_,rfl,we,Sx,⟨es,clock,rfl,rfl,t6⟩,_,rfl⟩
   .rw[jq _ _ n1]
    have h3:=hS.ok k q n2;have hk:=hbn n2;subst hk
    have hq:q=.obj (mapP (es.map kvE)):=by
     rw[(jv n2).2]at hH
     simpa using hH
    subst hq;exact SR.ok_of (f:=λ_=>true) rfl (ρ:=ρ) (ρ':=ρ) (λ_ _=>rfl) h3 λi hi=>Qr (SR.ok_lt h3 hi)
  .have hl:∀i,i∈qr (ρ b)->i<S.length:=λi hi=>SR.ok_lt (hS.ok b _ ((z8 b).trans hH)) hi
   rcases key k q g1 with⟨rfl,rfl⟩|⟨n1,n2⟩
   .rcases key k' q' g2 with⟨rfl,rfl⟩|⟨m1,m2⟩
    .exact d7 rfl
    .rw[zi]at hi
     rw[jq _ _ m1,hbn m2]at sc;simp only[qr,Qc]at hi;have:=hl i sc;omega
   .rcases key k' q' g2 with⟨rfl,rfl⟩|⟨m1,m2⟩
    .rw[zi]at sc
     rw[jq _ _ n1,hbn n2]at hi;simp only[qr,Qc]at sc;have:=hl i hi;omega
    .exact d7 ((hbn n2).trans (hbn m2).symm)
  .rcases key k q hk with⟨rfl,rfl⟩|⟨n1,n2⟩
   .rw[zi]at hi
    simp only[qr,Qc]at hi;exact .inl Om
   .rw[jq _ _ n1]at hi
    exact .inr ⟨k,q,n2,hi⟩
end
theorem q94{E:Env}{rd:Option Nat}{N:Nat}{B:Bs}{C:Conf}{Q:Exit->Conf->Prop}{id:Nat}{ops:Array Oper}{r:List Oper}{d:Option Tmp}{T:TypeId}{p:String}{af:Array Edge}{x:Operand}{n q:Nat}{kvs:List (Value×Value)}{vis:List Nat}{v:SV}
  (hops:ops.toList=⟨d,.next x false,T,p,af,none⟩::r) (hx:sval N C.sl x=some (.bx n 0)) (hq:hpF C.hp q=some (.clu (qdu kvs vis) [.bx n 0,v]))
  (h0:(∀i,i<kvs.length->i∈vis)->qis C.sl C.hp C.nx d (qlt E N ops.toList 1 r (Q .normal)) ⟨.tu [.ff],[q],[],C.nx⟩)
  (h1:∀i kv,kvs[i]?=some kv->i∉vis->qis C.sl C.hp C.nx d (qlt E N ops.toList 1 r (Q .normal)) ⟨.tu [.tt,.a (.v kv.1),.a (.v kv.2)],[q],[(q,some (.clu (qdu kvs (vis++[i])) [.bx n 0,v]))],C.nx⟩):Sm E rd N B (.region id ops false) Q C:=⟨λs hs=>by
 have e:ops=ops.toList.toArray:=Sx
 rw[e];refine qi ?_;have hs0:=hs;obtain⟨t,S,df⟩:=s;obtain⟨ρ,hF,hR⟩:=hs;simp only at hF hR
 have goOn:∀(ef:Ef)(S':List AObj),qa9 ρ S C.nx (hpF C.hp) ef ρ S'->qis C.sl C.hp C.nx d (qlt E N ops.toList 1 r (Q .normal)) ef->AOps E rd N ops.toList.toArray r (λs'=>∃C',Q .normal C'∧SatC B C' s') (AS.put ⟨t,S',df⟩ d (ef.val.ev ρ)):=λef S' hp hn=>by
  obtain⟨hw,h⟩:=qjo hn;refine qo7 h ⟨ρ,?_,?_⟩
  .have:=hF.step (d:=d) hR.hp hw hp
   cases hd:d with
   |none=>rw[hd]at this;exact this
   |some d=>rw[hd]at this;exact this
  .have:=hR.step (d:=d) hw hp
   cases hd:d with
   |none=>rw[hd]at this;exact this
   |some d=>rw[hd]at this;exact this
 obtain⟨oi,om,el,ec,⟨es,clock,seen,g1,g2,rfl,t6,hvis,m9⟩⟩:=hR.hp.ok q _ hq;simp only[SV.evs,SV.ev,Zh,and_true]at el
 have hlc:∀o,o∈qr (ρ q)↔(o=oi∨o=om):=λo=>by
  rw[ec];simp[qr,jn]
 have hqr:resF [q] (hpF C.hp) q=some (.clu (qdu (es.map kvE) vis) [.bx n 0,v]):=(z8 q).trans hq;have d7:oi≠om:=λe=>by rw[e,g1]at g2;simp at g2
 rw[hops];rw[hops]at goOn h0 h1;refine q4r (oi:=oi) (om:=om) (s:=⟨t,S,df⟩) ((qs hR.sl hx).trans (by simp only[SV.ev];exact el.1)) g2 g1 t6.lt (Qn _) (λi6=>?_) (λent he hns=>?_)
 .refine goOn ⟨.tu [.ff],[q],[],C.nx⟩ S ⟨λ_ _=>rfl,?_,Qn _,λ_ _ _=>rfl,λk r hk o ho=>.inr ⟨k,r,hk,ho⟩⟩ (h0 λi hi=>?_)
  .exact(hR.hp.res [q])
  .rw[Zx]at hi
   exact(hvis i es[i] (Qu hi)).1 (i6 _ (Zu hi))
 .obtain⟨i,hi⟩:=Xo he
  have hiv:i∉vis:=λh=>hns ((hvis i ent hi).2 h)
  have key:∀k r',chF [(q,some (SR.clu (qdu (es.map kvE) (vis++[i])) [.bx n 0,v]))] (resF [q] (hpF C.hp)) k=some r'->k=q∧r'=.clu (qdu (es.map kvE) (vis++[i])) [.bx n 0,v]:=λk r' hk=>by
   simp only[chF,lkS]at hk;by_cases q1:q=k
   .subst q1
    simp at hk;exact⟨rfl,hk.symm⟩
   .rw[zq q1]at hk
    have:=(jv hk).1;simp only[memN,Ze,Zr,Zn]at this;exact absurd (Qx this).symm q1
  refine goOn ⟨.tu [.tt,.a (.v ent.key),.a (.v ent.val)],[q],[(q,some (.clu (qdu (es.map kvE) (vis++[i])) [.bx n 0,v]))],C.nx⟩ _ ⟨λ_ _=>rfl,⟨λk r' hk=>?_,λk k' r1 r2 d7 f1 f2=>absurd ((key k r1 f1).1.trans (key k' r2 f2).1.symm) d7⟩,Sx,λj hj hn=>?_,λk r' hk o ho=>?_⟩ (h1 i (ent.key,ent.val) (by rw[Qd,hi];rfl) hiv)
  .obtain⟨rfl,rfl⟩:=key k r' hk
   refine⟨oi,om,by simp only[SV.evs,SV.ev,el],ec,⟨es,clock,seen.push ent.born,?_,yz g2,rfl,t6,λj e hj=>?_,λj hj=>?_⟩⟩
   .rw[Zz d7]
    exact g1
   .rw[Array.mem_push,Qa,Qc,hvis j e hj]
    constructor
    .rintro(h|h)
     .exact .inl h
     .exact .inr (q8j t6 hj hi h)
    .rintro(h|h)
     .exact .inl h
     .subst h
      rw[hi]at hj;simp only[Qh]at hj;exact .inr (by rw[hj])
   .rw[List.getLast?_append,List.getLast?_singleton]at hj
    simp only[Option.some_or,Qh]at hj;subst hj;exact⟨ent,seen,hi,rfl⟩
  .have:=hn q _ hqr
   rw[hlc,not_or]at this;exact Zz (λe=>this.1 e.symm)
  .obtain⟨rfl,rfl⟩:=key k r' hk
   exact .inr ⟨k,_,hqr,ho⟩⟩
section
variable {E : Env} {N : Nat} {ops : Array Oper} {nx : Nat} {sl : List (Nat × SV)} {H : Nat → Option SR} {k : Ef → Prop} {d : Option Tmp} {T : TypeId} {p : String} {af : Array Edge}
theorem q8y{x:Operand}{n q i:Nat}{kvs:List (Value×Value)}{vis:List Nat}{v v1 v2:SV}{kv:Value×Value}(hx:sval N sl x=some (.bx n 0))(hq:H q=some (.clu (qdu kvs (vis++[i])) [.bx n 0,v]))(hkv:kvs[i]?=some kv)(h1:∀ρ,v1.ev ρ=.v kv.1)(h2:∀ρ,v2.ev ρ=.v kv.2)
  (h:k ⟨.tu [v1,v2],[q],[],nx⟩):∃e,Loc E N ops ⟨d,.entry x,T,p,af,none⟩ nx sl H e∧k e:=by
 refine⟨_,w6 (v:=.tu [v1,v2]) λdf rd K rest ρ t' S hs hS hk=>?_,h⟩;have he12:(SV.tu [v1,v2]).ev ρ=.tu [.v kv.1,.v kv.2]:=by simp only[SV.ev,SV.evs,h1,h2]
 rw[he12]at hk;obtain⟨oi,om,el,ec,⟨es,clock,seen,g1,g2,rfl,t6,hvis,m9⟩⟩:=hS.ok q _ ((z8 q).trans hq);simp only[SV.evs,SV.ev,Zh,and_true]at el;obtain⟨e,s0,he,rfl⟩:=m9 i Sx;rw[Qd,he]at hkv;simp only[Xa,Qh]at hkv;subst hkv;exact q1r (s:=⟨t',S,df⟩) ((qs hs hx).trans (by simp only[SV.ev];exact el.1)) g2 rfl g1 (Xb he) t6 hk
end
end Go.Av
namespace Go.Av
open Go Go.RowKit
structure qpb (E:Env) (N:Nat) (l:List Oper) (g:Bool) (o:Oper) (nx:Nat) (sl:List (Nat×SV)) (H:Nat->Option SR) (k:Ef->Prop):Prop where
 ex:∃(ι:Type)(e:ι->Ef),(∀(df:List Nat)(rd:Option Nat)(K:AS->Prop)(rest:List Oper)(ρ t:Nat->AV)(S:List AObj),SlOk ρ t sl->SatF S ρ H->
  (∀i ρ' S',qa9 ρ S nx H (e i) ρ' S'->AOps E rd N l.toArray rest K (AS.put ⟨t,S',df⟩ o.dst ((e i).val.ev ρ')))->AOps E rd N l.toArray (o::rest) K ⟨t,S,df⟩)∧∀i,k (e i)
theorem locM{E:Env}{N:Nat}{l:List Oper}{g:Bool}{o:Oper}{nx:Nat}{sl:List (Nat×SV)}{H:Nat->Option SR}{k:Ef->Prop}(h:∃e,Loc E N l.toArray o nx sl H e∧gdW g k e):qpb E N l g o nx sl H k:=by
 obtain⟨e,hL,hk⟩:=h;obtain⟨e,hL,hk⟩:=qtf hL hk;exact⟨Unit,λ_=>e,λdf rd K rest ρ t S hs hS hx=>hL df rd K rest ρ t S hs (hS.res e.ks) λρ' S' hp=>hx () ρ' S' hp,λ_=>hk⟩
theorem qol{E:Env}{N:Nat}{l:List Oper}{g:Bool}{o:Oper}{nx:Nat}{sl:List (Nat×SV)}{H:Nat->Option SR}{k:Ef->Prop}(h:LocK E N l o nx sl H (gdW g k)):qpb E N l g o nx sl H k:=locM h.ex
def q1n(E:Env)(N:Nat)(l:List Oper):Nat->List Oper->(Conf->Prop)->Conf->Prop
 |_,[],K,C=>K C
 |i,o::r,K,⟨sl,hp,nx⟩=>qpb E N l (isGd i l) o nx sl (hpF hp) (fcE (qis sl hp nx o.dst (q1n E N l (i+1) r K)))
theorem qxe{E:Env}{rd:Option Nat}{N:Nat}{l:List Oper}{B:Bs}{K:Conf->Prop}:∀{r:List Oper}{i:Nat}{C:Conf}{s:AS},q1n E N l i r K C->SatC B C s->AOps E rd N l.toArray r (λs'=>∃C',K C'∧SatC B C' s') s
 | [],_,C,s,h,hs=>qh ⟨C,h,hs⟩
 |o::r,i,⟨sl,hp,nx⟩,s,h,hs=>by
  obtain⟨ι,e,hL,h⟩:=h.ex;obtain⟨t,S,df⟩:=s;obtain⟨ρ,i5,hR⟩:=hs;simp only at i5 hR;refine hL _ rd _ r ρ t S hR.sl hR.hp λj ρ' S' hp=>?_;have h:=h j;rw[qs9]at h;obtain⟨hw,h⟩:=qjo h;refine qxe h ⟨ρ',?_,?_⟩
  .have:=i5.step (d:=o.dst) hR.hp hw hp
   cases hd:o.dst with
   |none=>rw[hd]at this;exact this
   |some d=>rw[hd]at this;exact this
  .have:=hR.step (d:=o.dst) hw hp
   cases hd:o.dst with
   |none=>rw[hd]at this;exact this
   |some d=>rw[hd]at this;exact this
theorem qjv{E:Env}{rd:Option Nat}{N:Nat}{B:Bs}{C:Conf}{Q:Exit->Conf->Prop}{id:Nat}{ops:Array Oper}(h:q1n E N ops.toList 0 ops.toList (Q .normal) C):Sm E rd N B (.region id ops false) Q C:=⟨λs hs=>by
 have e:ops=ops.toList.toArray:=Sx
 rw[e]
 exact qi (qxe h hs)⟩
theorem zcy{E:Env}{N:Nat}{l:List Oper}{g:Bool}{op:Oper}{nx:Nat}{sl:List (Nat×SV)}{H:Nat->Option SR}{k:Ef->Prop}{t Tw:TypeId}{sz:Nat}{ms:List PM}{f:List AV}(q:Nat)(vs:List SV)
  (rq:∀(df:List Nat)(rd:Option Nat)(K:AS->Prop)(rest:List Oper)(ρ t1:Nat->AV)(S:List AObj),SlOk ρ t1 sl->AOps E rd N l.toArray rest K (AS.put ⟨t1,S++[.cells 0 t (f++[zf])],df⟩ op.dst (.bx S.length 0 0))->AOps E rd N l.toArray (op::rest) K ⟨t1,S,df⟩)
  (hq:H q=some (.clu (pool t Tw sz ms) vs)) (hqn:Zd q nx=true)
  (h:∀o:Nat,k ⟨.a (.bx o 0 0),[q],[(q,none),(nx,some (.clu (pool t Tw sz (ms++[⟨o,f,[]⟩])) []))],nx+1⟩):qpb E N l g op nx sl H k:=by
 have hqn:=jj hqn;refine⟨Nat,λo=>⟨.a (.bx o 0 0),[q],[(q,none),(nx,some (.clu (pool t Tw sz (ms++[⟨o,f,[]⟩])) []))],nx+1⟩,λdf rd K rest ρ t1 S hs hS hk=>?_,h⟩;refine rq df rd K rest ρ t1 S hs ?_;obtain⟨ws,e1,e2,e3⟩:=hS.ok q _ hq;have b9:=qf6 e2
 have hV:vg (ms++[⟨S.length,f,[]⟩]) (ws++[zf])=vg ms ws++[.bx S.length 0 0,zf]:=by
  rw[qcg b9];rfl
 have cz:∀o,o∈qr (ρ q)->o<S.length:=λo ho=>SR.ok_lt (hS.ok q _ hq) ho
 have hl:qr (.ag (vg (ms++[⟨S.length,f,[]⟩]) (ws++[zf])))=qr (ρ q)++[S.length]:=by
  rw[hV,e1];simp only[qr,qak,jn,Zi,Qi,Ql]
 have key:∀j r,chF [(q,none),(nx,some (SR.clu (pool t Tw sz (ms++[⟨S.length,f,[]⟩])) []))] (resF [q] H) j=some r->j=nx∧r=.clu (pool t Tw sz (ms++[⟨S.length,f,[]⟩])) []:=λj r hj=>by
  simp only[chF,lkS]at hj;by_cases j0:q=j
  .subst j0
   simp at hj
  .rw[zq j0]at hj
   simp only[cond_false]at hj;by_cases j1:nx=j
   .subst j1
    simp at hj;exact⟨rfl,hj.symm⟩
   .rw[zq j1]at hj
    have:=(jv hj).1;simp only[memN,Ze,Zr,Zn]at this;exact absurd (Qx this).symm j0
 refine hk S.length (upd ρ nx (.ag (vg (ms++[⟨S.length,f,[]⟩]) (ws++[zf])))) _ ⟨λj hj=>jq _ _ (by simp only at hj;omega),⟨λj r hj=>?_,λj j' r r' d7 g1 g2=>absurd ((key j r g1).1.trans (key j' r' g2).1.symm) d7⟩,Sx,λj hj _=>Qr hj,λj r hj o ho=>?_⟩
 .obtain⟨rfl,rfl⟩:=key j r hj
  rw[zi];refine⟨ws++[zf],rfl,qhs (qhr e2 λo ho=>Qr (cz o (by rw[e1];exact ho))) ⟨⟨we,qgx 0 _ sz Tw⟩,trivial⟩,?_⟩;rw[hl,Qq]
  exact⟨e3,Sx,λx hx y hy=>by
   have:=cz x hx;simp only[Qc]at hy
   omega⟩
 .obtain⟨rfl,rfl⟩:=key j r hj
  rw[zi,hl,Qa,Qc]at ho;rcases ho with ho|rfl
  .exact .inr ⟨q,_,(z8 q).trans hq,ho⟩
  .exact .inl (Qn _)
theorem zcx{E:Env}{N:Nat}{l:List Oper}{g:Bool}{nx:Nat}{sl:List (Nat×SV)}{H:Nat->Option SR}{k:Ef->Prop}{d:Option Tmp}{t0:TypeId}{p:String}{af:Array Edge}{t Tw:TypeId}{x:Operand}{v:SV}{sz:Nat}{ms:List PM}{f:List AV}(q:Nat)(vs:List SV)(hx:sval N sl x=some v)(hv:∀ρ,v.ev ρ=.ag (f++[zf]))(hok:(AV.ag (f++[zf])).okc=true)(hq:H q=some (.clu (pool t Tw sz ms) vs))(hqn:Zd q nx=true)
  (h:∀o:Nat,k ⟨.a (.bx o 0 0),[q],[(q,none),(nx,some (.clu (pool t Tw sz (ms++[⟨o,f,[]⟩])) []))],nx+1⟩):qpb E N l g ⟨d,.box t x,t0,p,af,none⟩ nx sl H k:=
 zcy q vs (λdf rd K rest ρ t1 S hs hk=>qvr rfl ((qs hs hx).trans (hv ρ)) hok rfl hk) hq hqn h
mutual
theorem zd9:∀v:SV,v.all (λ_=>true)=true
 |.a _=>rfl
 |.i _=>rfl
 |.s _=>rfl
 |.tt=>rfl
 |.ff=>rfl
 |.b _=>rfl
 |.p _ _=>rfl
 |.bx _ _=>rfl
 |.tp _=>rfl
 |.ag cs=>qh0 cs
 |.tu cs=>qh0 cs
 |.fn _ xs ys=>by simp only[SV.all,qh0 xs,qh0 ys,Zs]
 |.ifc _ x=>zd9 x
theorem qh0:∀l:List SV,SV.alls (λ_=>true) l=true
 | []=>rfl
 |x::r=>by simp only[SV.alls,zd9 x,qh0 r,Zs]
end
theorem zg0:∀r:SR,r.all (λ_=>true)=true
 |.cells _ cs=>qh0 cs
 |.tip _ _ _=>rfl
 |.own _ _ _=>rfl
 |.obj _=>rfl
 |.rows _ _ cs=>qh0 cs
 |.clu _ vs=>qh0 vs
theorem qdr{ρ:Nat->AV}{o:Nat}:∀{l:List (Nat×Option SR)},o∈jn (l.map λq=>ρ q.1)↔∃q∈l,o∈qr (ρ q.1)
 | []=>by simp[jn]
 |q::l=>by
  simp only[Qk,jn,Qa,qdr (l:=l),Qj];constructor
  .rintro(h|⟨p,h1,h2⟩)
   .exact⟨q,.inl rfl,h⟩
   .exact⟨p,.inr h1,h2⟩
  .rintro⟨p,rfl|h1,h2⟩
   .exact .inl h2
   .exact .inr ⟨p,h1,h2⟩
def allS(hp:List (Nat×Option SR)):Bool:=hp.all λq=>(hpF hp q.1).isSome
theorem qi7{hp:List (Nat×Option SR)}(h:allS hp=true){q:Nat×Option SR}(hq:q∈hp):∃r,hpF hp q.1=some r:=Option.isSome_iff_exists.1 (Zb.1 h q hq)
def qal{ι:Type}(Pr:ι->Prop)(hp:ι->List (Nat×Option SR))(o:Nat):Clu where
 ok S c _:=∃x ρ,Pr x∧c=.ag ((hp x).map λq=>ρ q.1)∧ρ 0=.bx o 0 0∧SatF S ρ (hpF (hp x))∧allS (hp x)=true
 lt S c _ h o' ho:=by
  obtain⟨x,ρ,_,rfl,_,hs,ha⟩:=h;obtain⟨q,h1,h2⟩:=qdr.1 ho;obtain⟨r,h3⟩:=qi7 ha h1;exact SR.ok_lt (hs.ok q.1 r h3) h2
 nd S c _ h o' ho:=by
  obtain⟨x,ρ,_,rfl,_,hs,ha⟩:=h;obtain⟨q,h1,h2⟩:=qdr.1 ho;obtain⟨r,h3⟩:=qi7 ha h1;exact SR.ok_dfr (hs.ok q.1 r h3) h2
 st S S' c _ h hx:=by
  obtain⟨x,ρ,h0,rfl,h1,hs,ha⟩:=h;refine⟨x,ρ,h0,rfl,h1,⟨λk r hk=>?_,hs.sep⟩,ha⟩;have:=ji (vo hk);refine SR.ok_of (f:=λ_=>true) (zg0 r) (λ_ _=>rfl) (hs.ok k r hk) λo' ho=>hx o' (qdr.2 ⟨(k,some r),this,ho⟩)
theorem qe9{k:Conf->Prop}{n:Nat}:∀(l:List ResultVar){C:Conf},pubK k l C->n<=C.nx->pubK (λC=>n<=C.nx∧k C) l C
 | [],C,h,hn=>⟨hn,h⟩
 |.cell _ _::r,C,h,hn=>qe9 r h hn
 |.tmp t::r,C,h,hn=>by
  simp only[pubK]at h⊢;split at h<;>try exact qe9 r h hn
  .split at h<;>try exact qe9 r h hn
   .split at h
    .split at h<;>exact qe9 r h hn
    .split at h<;>exact qe9 r h hn
  .split at h<;>exact qe9 r h hn
theorem zga{E:Env}{fn:Func}{R:AV->List AObj->Prop}{S0:List AObj}{F:Nat->Prop}{ρ:Nat->AV}{k:Conf->Prop}{n:Nat}(hk:∀C t S,n<=C.nx->k C->SatR S0 F C ρ t S->ARet E fn R ⟨t,S,[]⟩){l:List ResultVar}{C:Conf}{t:Nat->AV}{S:List AObj}(h:pubK k l C)(hn:n<=C.nx)(hR:SatR S0 F C ρ t S):ARet E fn R ⟨t,S,[]⟩:=by
 refine qat (k:=λC=>n<=C.nx∧k C) (λC t S h=>hk C t S h.1 h.2) (qe9 l h hn) hR
def q6m{ι:Type}(P:Program)(fn:Func)(ra:AV)(Pr:ι->Prop)(hp':ι->List (Nat×Option SR))(m:Nat)(C:Conf):Prop:=
 ansW P fn C (λy=>Tl y ra)∧∃y,Pr y∧∃C1,Red 1 ⟨[],C.hp,C.nx⟩ C1∧EntE 1 C1 ⟨[],hp' y,m⟩
def retX{ι:Type}(P:Program)(fn:Func)(ra:AV)(Pr:ι->Prop)(hp':ι->List (Nat×Option SR))(m:Nat)(e:Exit)(C:Conf):Prop:=
 match e with
 |.normal=>pubK (q6m P fn ra Pr hp' m) fn.results.toList C
 |.ret=>pubK (q6m P fn ra Pr hp' m) fn.results.toList C
 |_=>False
theorem zfe{E:Env}{fn:Func}{ι:Type}{Pr:ι->Prop}{hp':ι->List (Nat×Option SR)}{S:List AObj}{F:Nat->Prop}{ρ:Nat->AV}{n:Nat}{ra:AV}{m':Nat}{e:Exit}{s:AS}(hn:1<=n)(h:∃C,retX E.P fn ra Pr hp' m' e C∧SatC ⟨S,F,ρ,n,False⟩ C s){K:AV->List AObj->Prop}
  (hK:∀y ρ3 t' S2,Pr y->ρ3 0=ρ 0->SatR S F ⟨[],hp' y,m'⟩ ρ3 t' S2->K ra S2):(e=.normal∨e=.ret)∧ARet E fn K s:=by
 obtain⟨C',hq,ρ2,i5,hR⟩:=h;obtain⟨t,S',df⟩:=s;simp only at i5 hR;have d8:=i5.le;simp only at d8
 have fin:pubK (q6m E.P fn ra Pr hp' m') fn.results.toList C'->ARet E fn K ⟨t,S',df⟩:=λh=>by
  refine qbf hR i5.dm i5.nd λS2 s8=>?_;refine zga (n:=n) (λC t S3 hCn h s8=>?_) h d8 s8;obtain⟨hans,y,hy,C1,hred,he⟩:=h;obtain⟨z,hz1,hz2⟩:=qul s8 hans;obtain⟨σ,mg,he⟩:=he.ent;have lv:SatR S F ⟨[],C.hp,C.nx⟩ ρ2 (λ_=>zf) S3:=⟨λd u hd=>by simp[lkS]at hd,s8.hp,s8.own,s8.low,s8.len,λd u hd=>by simp[lkS]at hd,s8.whp⟩;obtain⟨ρ2',hr0,lv⟩:=hred.run S F ρ2 _ S3 (by simp only;omega) lv;obtain⟨t',hw,u7⟩:=he.sat lv
  have nq:renR σ ρ2' 0=ρ 0:=by
   simp only[Qt]at mg;unfold renR;rw[qgs mg.1 0 Om];exact(hr0 0 Om).trans (i5.rig 0 hn)
  exact qo rfl (vh hz1 hz2.ok) (hK y _ t' S3 hy nq u7)
 cases e with
 |normal=>exact⟨.inl rfl,fin hq⟩
 |ret=>exact⟨.inr rfl,fin hq⟩
 |_=>exact hq.elim
theorem j7{E:Env}{f:FuncId}{fn:Func}{c:Code}{ι ι':Type}{Pr:ι->Prop}{Pr':ι'->Prop}{hp:ι->List (Nat×Option SR)}{hp':ι'->List (Nat×Option SR)}{o:Nat}(ar:List AV)(vs:List SV)(n m':Nat)(r:SV)(ra:AV)(hf:E.P.funcs[f]?=some fn)(hb:fn.body=some c)(hn:Zw vs.length fn.ntmps=true)(hn1:Zw 1 n=true)
  (hvs:∀ρ,ρ 0=.bx o 0 0->SV.evs ρ vs=ar) (hr:r.all (λ_=>false)=true) (hra:∀ρ,r.ev ρ=ra) (hc:∀x,okC ⟨zl 0 vs,hp x,n⟩=true) (hA:∀y,allS (hp' y)=true)
  (h:∀x S F ρ,Pr x->numK 0 vs λsl=>Sm E none fn.ntmps ⟨S,F,ρ,n,False⟩ c (retX E.P fn ra Pr' hp' m') ⟨sl,hp x,n⟩):
  qz E f (nfs ar) 1 (hpF [(0,some (.clu (qal Pr hp o) []))]) ⟨r,q8 [(0,some (SR.clu (qal Pr hp o) []))],[(1,some (.clu (qal Pr' hp' o) []))]++q9 [(0,some (SR.clu (qal Pr hp o) []))],2⟩:=λρo S hS=>by
 simp only[qfk]at h;have hS0:=hS.ok 0 (.clu (qal Pr hp o) []) rfl;obtain⟨x,ρ,hx,hco,h0,hs,ha⟩:=hS0;have fx:SV.evs ρo (nfs ar)=SV.evs ρ vs:=by rw[qhq,hvs ρ h0]
 rw[fx];have b9:(SV.evs ρ vs).length=vs.length:=by rw[zw,Zx]
 refine qq hf hb (by rw[b9];exact Qw hn) ?_;rw[Zi];have hc:=hc x;simp only[okC,Qt]at hc
 have hwhp:∀k r,hpF (hp x) k=some r->k<n∧r.all (λk=>Zd k n)=true:=λk r hk=>by
  have:=Zb.1 hc.2 _ (ji (vo hk));simp only[Qt]at this;exact⟨jj this.1,this.2⟩
 have cz:∀j,yh (hp x) ρ j↔j∈qr (ρo 0):=λj=>by
  rw[hco];constructor
  .rintro⟨k,q,h1,h2⟩
   exact qdr.2 ⟨(k,some q),ji (vo h1),h2⟩
  .intro hj
   obtain⟨q,h1,h2⟩:=qdr.1 hj;obtain⟨r',h3⟩:=qi7 ha h1;exact⟨q.1,r',h3,h2⟩
 have d9:SatC ⟨S,yh (hp x) ρ,ρ,n,False⟩ ⟨zl 0 vs,hp x,n⟩ ⟨argT (SV.evs ρ vs),S,[]⟩:=by
  refine⟨ρ,⟨nofun,Xl,λ_ _=>rfl,Qn _,nofun⟩,⟨λd v hd=>?_,hs,λk r hk o ho=>.inr ⟨k,r,hk,ho⟩,λ_ _ _=>rfl,Qn _,λd v hd=>?_,hwhp⟩⟩
  .obtain⟨j,h1,h2⟩:=xo hd
   have:(SV.evs ρ vs)[j]?=some (v.ev ρ):=by rw[zw,Qd,h2];rfl
   rw[h1,Xg];simp only[argT,Ya,this,Xh]
  .exact Zb.1 hc.1 _ (ji hd)
 refine((h x S (yh (hp x) ρ) ρ hx).run _ d9).mono λe s' hq=>?_;have key:=zfe (K:=λr' S'=>∃ρ',r'=r.ev ρ'∧qa9 ρo S 1 (hpF [(0,some (.clu (qal Pr hp o) []))]) ⟨r,q8 [(0,some (SR.clu (qal Pr hp o) []))],[(1,some (.clu (qal Pr' hp' o) []))]++q9 [(0,some (SR.clu (qal Pr hp o) []))],2⟩ ρ' S') (Qw hn1) hq ?_
 .rcases key with⟨rfl|rfl,hk⟩<;>exact hk
 .intro y ρ3 t' S2 hy h3 u7
  refine⟨upd ρo 1 (.ag ((hp' y).map λq=>ρ3 q.1)),(hra _).symm,?_⟩
  have h1:∀k q,chF ([(1,some (SR.clu (qal Pr' hp' o) []))]++q9 [(0,some (SR.clu (qal Pr hp o) []))]) (resF (q8 [(0,some (SR.clu (qal Pr hp o) []))]) (hpF [(0,some (SR.clu (qal Pr hp o) []))])) k=some q->k=1∧q=.clu (qal Pr' hp' o) []:=λk q hk=>by
   rw[jb,x3]at hk;unfold hpF at hk;simp only[lkS]at hk;by_cases e:1=k
   .subst e
    simp at hk;exact⟨rfl,hk.symm⟩
   .rw[zq e]at hk
    simp at hk
  refine⟨λk hk=>jq _ _ (by simp only at hk;omega),⟨λk q hk=>?_,λk k' q q' d7 g1 g2=>absurd ((h1 k q g1).1.trans (h1 k' q' g2).1.symm) d7⟩,u7.len,λj hj hn=>?_,λk q hk o' ho=>?_⟩
  .obtain⟨rfl,rfl⟩:=h1 k q hk
   rw[zi];exact⟨y,ρ3,hy,rfl,h3.trans h0,u7.hp,hA y⟩
  .exact u7.low j hj λhF=>hn 0 (.clu (qal Pr hp o) []) rfl ((cz j).1 hF)
  .obtain⟨rfl,rfl⟩:=h1 k q hk
   rw[zi]at ho;obtain⟨q,g1,g2⟩:=qdr.1 ho;obtain⟨r',g3⟩:=qi7 (hA y) g1;rcases u7.own q.1 r' g3 o' g2 with g|g
   .exact .inl g
   .exact .inr ⟨0,_,rfl,(cz o').1 g⟩
def qk6(E:Env)(f:FuncId)(vs:List SV)(nx:Nat)(H:Nat->Option SR){ι:Type}(e:ι->Ef):Prop:=
 ∀(ρ:Nat->AV)(S:List AObj),SatF S ρ H->qm E f (SV.evs ρ vs) S λr S'=>∃i ρ',r=(e i).val.ev ρ'∧qa9 ρ S nx H (e i) ρ' S'
theorem ql6{E:Env}{N:Nat}{l:List Oper}{nx:Nat}{sl:List (Nat×SV)}{H:Nat->Option SR}{k:Ef->Prop}{g:Bool}{d:Option Tmp}{T:TypeId}{p:String}{af:Array Edge}{x:Operand}{xs:Array Operand}{ts:Array TypeId}{v:SV}{vs:List SV}{f:FuncId}{a b:List SV}(hv:sval N sl x=some v)(hvs:qkr N sl xs.toList=some vs)(hf:fnOf v=some (f,a,b))(hE:qpa E f){ι:Type}(e:ι->Ef)(hc:qk6 E f (a++(vs++b)) nx H e)(h:∀i,k (e i)):
  qpb E N l g ⟨d,.call ⟨.value x,xs,ts⟩,T,p,af,none⟩ nx sl H k:=
 ⟨ι,e,λdf rd K rest ρ t S hs hS hk=>by
  refine qsd ((qs hs hv).trans (q3o hf ρ)) hE.run ?_;have:=hc ρ S hS;rw[qjy hs hvs];have he:SV.evs ρ (a++(vs++b))=SV.evs ρ a++SV.evs ρ vs++SV.evs ρ b:=by simp[zw]
  rw[he]at this;refine this.mono ?_;rintro r S' ⟨i,ρ',rfl,hp⟩
  exact hk i ρ' S' hp,h⟩
def retN{ι:Type}(P:Program)(fn:Func)(rs:List SV)(Pr:ι->Prop)(hp':ι->List (Nat×Option SR))(m:Nat)(e:Exit)(C:Conf):Prop:=
 match e with
 |.ret=>(match resV P fn.ntmps C fn.results.toList with
  |some v=>v.all (λk=>Zd k C.nx)=true∧∃y,Pr y∧∃C1,Red 0 ⟨[(0,v)],C.hp,C.nx⟩ C1∧EntE 0 C1 ⟨[(0,match rs with | []=>.bx 0 0|r=>.tu (.bx 0 0::r))],hp' y,m⟩
  |none=>False)
 |.normal=>False
 |_=>False
theorem zbe{E:Env}{f:FuncId}{fn:Func}{c:Code}{ι:Type}{Pr:ι->Prop}{hp':ι->List (Nat×Option SR)}(vs:List SV)(nx m':Nat)(H:Nat->Option SR)(rs:List SV)(hf:E.P.funcs[f]?=some fn)(hb:fn.body=some c)(hn:Zw vs.length fn.ntmps=true)(hv:SV.alls (λ_=>false) vs=true)(hr:SV.alls (λ_=>false) rs=true)(h00:∀y,∃T cs,hpF (hp' y) 0=some (.cells T cs))(hA:∀y,allS (hp' y)=true)
  (h:∀S F ρ,numK 0 vs λsl=>Sm E none fn.ntmps ⟨S,F,ρ,0,False⟩ c (retN E.P fn rs Pr hp' m') ⟨sl,[],0⟩):
  qk6 E f vs nx H λo:Nat=>⟨match rs with | []=>.a (.bx o 0 0)|r=>.tu (.a (.bx o 0 0)::r),[],[(nx,some (.clu (qal Pr hp' o) []))],nx+1⟩:=λρ S hS=>by
 simp only[qfk]at h;have b9:(SV.evs ρ vs).length=vs.length:=by rw[zw,Zx]
 refine qq hf hb (by rw[b9];exact Qw hn) ?_;rw[Zi]
 have d9:SatC ⟨S,λ_=>False,ρ,0,False⟩ ⟨zl 0 vs,[],0⟩ ⟨argT (SV.evs ρ vs),S,[]⟩:=by
  refine⟨ρ,⟨nofun,Xl,λ_ _=>rfl,Qn _,nofun⟩,⟨λd v hd=>?_,⟨λk r hk=>by simp[hpF,lkS]at hk,λk k' r r' _ hk=>by simp[hpF,lkS]at hk⟩,λk r hk=>by simp[hpF,lkS]at hk,λ_ _ _=>rfl,Qn _,λd v hd=>?_,λk r hk=>by simp[hpF,lkS]at hk⟩⟩
  .obtain⟨j,h1,h2⟩:=xo hd
   have:(SV.evs ρ vs)[j]?=some (v.ev ρ):=by rw[zw,Qd,h2];rfl
   rw[h1,Xg];simp only[argT,Ya,this,Xh]
  .obtain⟨j,h1,h2⟩:=xo hd
   have:∀(l:List SV),SV.alls (λ_=>false) l=true->∀(j:Nat)(v:SV),l[j]?=some v->v.all (λk=>Zd k 0)=true:=λl=>by
    induction l with
    |nil=>intro _ j v h;simp at h
    |cons a r ih=>
     intro ha j v h;simp only[SV.alls,Qt]at ha
     cases j with
     |zero=>
      simp only[List.getElem?_cons_zero,Qh]at h;subst h
      exact all_mono (λ_ h=>by simp at h) a ha.1
     |succ j=>exact ih ha.2 j v (by simpa using h)
   exact this vs hv j v h2
 refine((h S (λ_=>False) ρ).run _ d9).mono λe s' ⟨C',hq,ρ2,i5,hR⟩=>?_;obtain⟨t,S',df⟩:=s';simp only at i5 hR
 cases e with
 |ret=>
  unfold retN at hq;simp only at hq;split at hq
  .rename_i v hvv
   obtain⟨hva,y,hy,C1,hred,he⟩:=hq;obtain⟨σ,mg,he⟩:=he.ent;refine qbf hR i5.dm i5.nd λS2 s8=>?_
   have lv:SatR S (λ_=>False) ⟨[(0,v)],C'.hp,C'.nx⟩ ρ2 (λ_=>v.ev ρ2) S2:=
    ⟨λd u hd=>by
     simp only[lkS]at hd
     cases hb:Qv 0 d with
     |true=>rw[hb]at hd;simp only[cond_true,Qh]at hd;rw[hd]
     |false=>rw[hb]at hd;simp[lkS]at hd,s8.hp,s8.own,s8.low,s8.len,λd u hd=>by
     simp only[lkS]at hd
     cases hb:Qv 0 d with
     |true=>rw[hb]at hd;simp only[cond_true,Qh]at hd;rw[<-hd];exact hva
     |false=>rw[hb]at hd;simp[lkS]at hd,s8.whp⟩
   obtain⟨ρ2',_,lv⟩:=hred.run S (λ_=>False) ρ2 _ S2 (Xj _) lv;obtain⟨t',hw,u7⟩:=he.sat lv;generalize renR σ ρ2'=ρ3 at u7;have h0:=u7.sl 0 _ rfl;have hwk:=hw 0;rw[h0]at hwk;obtain⟨T0,cs0,hc0⟩:=h00 y;obtain⟨o,v0,e1,_,e2⟩:=u7.hp.ok 0 _ hc0;subst e2;refine qo rfl (vh (qlp s8 hvv) hwk) ⟨o,upd ρ nx (.ag ((hp' y).map λq=>ρ3 q.1)),?_,?_⟩
   .have fx:∀ρ',SV.evs ρ' rs=SV.evs ρ3 rs:=λρ'=>wy (λk hk=>by simp at hk) rs hr
    cases rs with
    |nil=>simp only[SV.ev,e1,bxAt]
    |cons r0 rs=>simp only[SV.ev,SV.evs,e1,bxAt]at fx⊢;rw[<-(Xx (fx (upd ρ nx (.ag ((hp' y).map λq=>ρ3 q.1))))).1,<-(Xx (fx (upd ρ nx (.ag ((hp' y).map λq=>ρ3 q.1))))).2]
   .have h1:∀k q,chF [(nx,some (SR.clu (qal Pr hp' o) []))] (resF [] H) k=some q->k=nx∧q=.clu (qal Pr hp' o) []:=λk q hk=>by
     simp only[chF,lkS]at hk;by_cases e:nx=k
     .subst e
      simp at hk;exact⟨rfl,hk.symm⟩
     .rw[zq e]at hk
      simp only[cond_false]at hk;rw[qdv]at hk;simp at hk
    refine⟨λk hk=>jq _ _ (by simp only at hk;omega),⟨λk q hk=>?_,λk k' q q' d7 g1 g2=>absurd ((h1 k q g1).1.trans (h1 k' q' g2).1.symm) d7⟩,u7.len,λj hj hn=>u7.low j hj λh=>h,λk q hk o' ho=>?_⟩
    .obtain⟨rfl,rfl⟩:=h1 k q hk
     rw[zi];exact⟨y,ρ3,hy,rfl,e1,u7.hp,hA y⟩
    .obtain⟨rfl,rfl⟩:=h1 k q hk
     rw[zi]at ho;obtain⟨q,g1,g2⟩:=qdr.1 ho;obtain⟨r',g3⟩:=qi7 (hA y) g1;rcases u7.own q.1 r' g3 o' g2 with g|g
     .exact .inl g
     .exact g.elim
  .exact hq.elim
 |_=>exact hq.elim
theorem zez{E:Env}{f:FuncId}{T Tw:TypeId}{sz q nx:Nat}{a b:List PM}{m:PM}{H:Nat->Option SR}{svs vs ws:List SV}{v:SV}(h:qz E f (.bx 0 0::vs) 2 (hpF [(0,some (.cells T (svs++[.tp 1]))),(1,some (.tip sz Tw m.xs))]) ⟨v,[0,1],[(0,some (.cells T (svs++[.tp 1]))),(1,some (.tip sz Tw m.xs))]++[(0,none),(1,none)],2⟩)
  (hH:H q=some (.clu (pool T Tw sz (a++m::b)) ws)) (gx:∀ρ,SV.evs ρ svs=m.f) (hv:v.all (λ_=>false)=true) (hvs:SV.alls (λ_=>false) vs=true):qz E f (.a (.bx m.o 0 0)::vs) nx H ⟨v,[q],[],nx⟩:=λρ S hS=>by
 obtain⟨wl,h1,h2,h3⟩:=hS.ok q _ ((z8 q).trans hH);obtain⟨wa,wb0,rfl,ha,h4⟩:=qit h2
 match wb0,h4 with
 |w::wb,h4=>
 have hla:=qf6 ha;rw[qcg hla,vg]at h1
 have pk:∀o,o∈qr (ρ q)↔(o∈jn (vg a wa)∨o=m.o∨o∈qr w∨o∈jn (vg b wb)):=λo=>by
  rw[h1];simp only[qr,qak,jn,Qa,Qj,Qi,Ql]
 have bv:=h3;rw[h1]at bv;simp only[qr,qak,jn,Qi,Ql]at bv;rw[Qq]at bv;obtain⟨n1,n2,n3⟩:=bv;rw[Za,Qq]at n2;obtain⟨n4,n5,n6,n7⟩:=n2;simp only[Qa,not_or]at n4
 let ρ2:Nat->AV:=λk=>if k=0 then .bx m.o 0 0 else w
 have hw1:tpAt w=w:=qgy h4.1.2
 have key:∀k r,hpF [(0,some (SR.cells T (svs++[.tp 1]))),(1,some (.tip sz Tw m.xs))] k=some r->(k=0∧r=.cells T (svs++[.tp 1]))∨(k=1∧r=.tip sz Tw m.xs):=λk r hk=>by
  unfold hpF at hk;simp only[lkS]at hk;by_cases k0:0=k
  .subst k0
   simp at hk;exact .inl ⟨rfl,hk.symm⟩
  .rw[zq k0]at hk
   by_cases k1:1=k
   .subst k1
    simp at hk;exact .inr ⟨rfl,hk.symm⟩
   .rw[zq k1]at hk
    simp at hk
 have dv:ρ2 0=.bx m.o 0 0:=rfl;have hm1:ρ2 1=w:=rfl
 have hSat:SatF S ρ2 (hpF [(0,some (SR.cells T (svs++[.tp 1]))),(1,some (.tip sz Tw m.xs))]):=⟨λk r hk=>by
  rcases key k r hk with⟨rfl,rfl⟩|⟨rfl,rfl⟩
  .refine⟨m.o,0,rfl,?_,rfl⟩
   rw[h4.1.1,zw,Zy,<-zw,gx];simp only[Qk,Xe,SV.ev,hm1,hw1]
  .exact h4.1.2,λk k' r r' d7 g1 g2 o ho e7=>by
  rcases key k r g1 with⟨rfl,rfl⟩|⟨rfl,rfl⟩<;>rcases key k' r' g2 with⟨rfl,rfl⟩|⟨rfl,rfl⟩
  .exact d7 rfl
  .rw[dv]at ho
   rw[hm1]at e7;simp only[qr,Qc]at ho;subst ho;exact n4.1 e7
  .rw[dv]at e7
   rw[hm1]at ho;simp only[qr,Qc]at e7;subst e7;exact n4.1 ho
  .exact d7 rfl⟩
 have hrk:resF [0,1] (hpF [(0,some (SR.cells T (svs++[.tp 1]))),(1,some (.tip sz Tw m.xs))])=hpF [(0,some (SR.cells T (svs++[.tp 1]))),(1,some (.tip sz Tw m.xs))]:=jb [(0,some (SR.cells T (svs++[SV.tp 1]))),(1,some (SR.tip sz Tw m.xs))];have hch:chF ([(0,some (SR.cells T (svs++[.tp 1]))),(1,some (.tip sz Tw m.xs))]++[(0,none),(1,none)]) (hpF [(0,some (SR.cells T (svs++[.tp 1]))),(1,some (.tip sz Tw m.xs))])=hpF [(0,some (SR.cells T (svs++[.tp 1]))),(1,some (.tip sz Tw m.xs))]:=x3 [(0,some (SR.cells T (svs++[SV.tp 1]))),(1,some (SR.tip sz Tw m.xs))] [(0,some (SR.cells T (svs++[SV.tp 1]))),(1,some (SR.tip sz Tw m.xs))];have a8:=h ρ2 S (by simp only[hrk];exact hSat)
 have fx:SV.evs ρ (.a (.bx m.o 0 0)::vs)=SV.evs ρ2 (.bx 0 0::vs):=by
  simp only[SV.evs,SV.ev,dv,bxAt,wy (ρ:=ρ2) (ρ':=ρ) (λk hk=>by simp at hk) vs hvs]
 rw[fx];refine a8.mono ?_;rintro r S' ⟨ρ',rfl,hp⟩;have e:ρ'=ρ2:=funext λk=>hp.old k (by simp only;omega);subst e;have cd:=hp.sat;simp only[hrk,hch]at cd
 have s9:S'[m.o]?=some (.cells 0 T (m.f++[w])):=by
  obtain⟨o',v',g1,g2,rfl⟩:=cd.ok 0 _ rfl;simp only[dv,AV.bx.injEq,and_true]at g1;obtain⟨rfl,_⟩:=g1;rw[g2,zw,Zy,<-zw,gx];simp only[Qk,Xe,SV.ev,hm1,hw1]
 have htip:SR.ok (λ_=>zf) S' w (.tip sz Tw m.xs):=cd.ok 1 _ rfl
 have t6:∀j,j<S.length->j≠m.o->j∉qr w->S'[j]?=S[j]?:=λj hj g1 g2=>hp.fr j hj λk r hk=>by
  simp only[hrk]at hk;rcases key k r hk with⟨rfl,rfl⟩|⟨rfl,rfl⟩
  .rw[dv]
   simpa[qr]using g1
  .rw[hm1]
   exact g2
 refine⟨ρ,xe (λk hk=>by simp at hk) v hv,λ_ _=>rfl,?_,hp.len,λj hj hn=>?_,λk r hk o ho=>.inr ⟨k,r,hk,ho⟩⟩
 .have hq1:∀k r,resF [q] H k=some r->k=q∧r=.clu (pool T Tw sz (a++m::b)) ws:=λk r hk=>by
   obtain⟨g1,g2⟩:=jv hk;simp only[memN,Ze,Zr,Zn]at g1;have:=Qx g1;subst this;rw[hH]at g2;exact⟨rfl,by simpa using g2.symm⟩
  refine⟨λk r hk=>?_,λk k' r r' d7 g1 g2=>absurd ((hq1 k r g1).1.trans (hq1 k' r' g2).1.symm) d7⟩;obtain⟨rfl,rfl⟩:=hq1 k r hk;have hoa:∀o,o∈jn (vg a wa)->S'[o]?=S[o]?:=λo ho=>t6 o (by obtain⟨m',w',g1,g2⟩:=qf5 ha o ho;exact(g1.lt g2).1) (λe=>n3 o ho m.o (Qp ..) e) λe=>n3 o ho o (Qe _ (Zm _ e)) rfl;have fj:∀o,o∈jn (vg b wb)->S'[o]?=S[o]?:=λo ho=>t6 o (by obtain⟨m',w',g1,g2⟩:=qf5 h4.2 o ho;exact(g1.lt g2).1) (λe=>n4.2 (e▸ho)) λe=>n7 o e o ho rfl;exact⟨wa++w::wb,by rw[h1,qcg hla,vg],qhs (qhr ha hoa) ⟨⟨s9,htip⟩,qhr h4.2 fj⟩,h3⟩
 .have:=hn q _ ((z8 q).trans hH)
  rw[pk,not_or,not_or,not_or]at this;exact t6 j hj this.2.1 this.2.2.1
theorem qt9{E:Env}{rd:Option Nat}{N:Nat}{B:Bs}{Q:Exit->Conf->Prop}{C:Conf}{T Tw:TypeId}{sz:Nat}{a b:List PM}{m:PM}{vs:List SV}(id:Nat){ops:Array Oper}(k d:Nat)(svs:List SV)(hk:hpF C.hp k=some (.clu (pool T Tw sz (a++m::b)) vs))(hd:lkS C.sl d=some (.a (.bx m.o 0 0)))(gx:∀ρ,SV.evs ρ svs=m.f)(i6:SV.alls (λ_=>false) svs=true)(bxs:List Nat)
  (h:quk E N ops.toList bxs 0 ops.toList (Q .normal) ⟨[(d,.bx C.nx 0)]++C.sl,qa3 [k]++(qa5 [(C.nx,.cells T (svs++[.tp (C.nx+1)])),(C.nx+1,.tip sz Tw m.xs),(C.nx+2,.clu (hole T Tw sz a b m.o) [.bx C.nx 0])]++C.hp),C.nx+3⟩):Sm E rd N B (.region id ops false) Q C:=
 qw4 k d svs hk hd gx i6 (v6 bxs h)
theorem entP{n0:Nat}{C C':Conf}(σ0:List (Nat×Nat))(h:fcP (addS σ0 (sigH (hpF C.hp) σ0 C'.hp)) λb=>fcP (addS b (sigH (hpF C.hp) b C'.hp)) λσ=>(rigN σ n0&&Zw n0 C'.nx)=true∧EntC σ C C'):EntE n0 C C':=by
 simp only[qta]at h;exact⟨_,h⟩
theorem fin0{C T:Conf}(h:EntE 1 C T):∃C1,Red 1 C C1∧EntE 1 C1 T:=⟨C,qm3,h⟩
theorem finU{C C2:Conf}{T Tw:TypeId}{sz:Nat}{a b:List PM}{f xs:List AV}{o:Nat}(n n1 n2:Nat)(svs:List SV)(h0:hpF C.hp n=some (.cells T (svs++[.tp n1])))(h1:hpF C.hp n1=some (.tip sz Tw xs))(h2:hpF C.hp n2=some (.clu (hole T Tw sz a b o) [.bx n 0]))(d7:(Qv n n2||Qv n1 n||Qv n1 n2)=false)(gx:∀ρ,SV.evs ρ svs=f)
  (h:EntE 1 ⟨C.sl,qa3 [n,n1,n2]++(qa5 [(C.nx,.clu (pool T Tw sz (a++⟨o,f,xs⟩::b)) [])]++C.hp),C.nx+1⟩ C2):∃C1,Red 1 C C1∧EntE 1 C1 C2:=⟨_,zgc n n1 n2 svs h0 h1 h2 d7 gx qm3,h⟩
theorem zi1{C C2:Conf}{T Tw:TypeId}{sz:Nat}{a b:List PM}{f:List AV}{o:Nat}(n n2:Nat)(svs:List SV)(h0:hpF C.hp n=some (.cells T (svs++[.a zf])))(h2:hpF C.hp n2=some (.clu (hole T Tw sz a b o) [.bx n 0]))(d7:Qv n n2=false)(gx:∀ρ,SV.evs ρ svs=f)
  (h:EntE 1 ⟨C.sl,qa3 [n,n2]++(qa5 [(C.nx,.clu (pool T Tw sz (a++⟨o,f,[]⟩::b)) [])]++C.hp),C.nx+1⟩ C2):∃C1,Red 1 C C1∧EntE 1 C1 C2:=⟨_,zc6 n n2 svs h0 h2 d7 gx qm3,h⟩
theorem qix{E:Env}{rd:Option Nat}{N:Nat}{B:Bs}{Q:Exit->Conf->Prop}{C:Conf}{T Tw:TypeId}{sz:Nat}{a b:List PM}{m:PM}{vs:List SV}(id:Nat){ops:Array Oper}{g:Bool}(k d:Nat)(svs:List SV)(hk:hpF C.hp k=some (.clu (pool T Tw sz (a++m::b)) vs))(hd:lkS C.sl d=some (.a (.bx m.o 0 0)))(gx:∀ρ,SV.evs ρ svs=m.f)(i6:SV.alls (λ_=>false) svs=true)
  (h:Sm E rd N B (.region id ops g) Q ⟨[(d,.bx C.nx 0)]++C.sl,qa3 [k]++(qa5 [(C.nx,.cells T (svs++[.tp (C.nx+1)])),(C.nx+1,.tip sz Tw m.xs),(C.nx+2,.clu (hole T Tw sz a b m.o) [.bx C.nx 0])]++C.hp),C.nx+3⟩):Sm E rd N B (.region id ops g) Q C:=
 qw4 k d svs hk hd gx i6 h
theorem q90{n0:Nat}{C C1:Conf}{T Tw:TypeId}{sz:Nat}(h:Red n0 ⟨C.sl,qa3 []++(qa5 [(C.nx,.clu (pool T Tw sz []) [])]++C.hp),C.nx+1⟩ C1):Red n0 C C1:=by
 refine⟨λS0 F ρ t S hn hR=>?_⟩
 have key:∀j r,lkS [(C.nx,SR.clu (pool T Tw sz []) [])] j=some r->j=C.nx∧r=.clu (pool T Tw sz []) []:=λj r hj=>by
  simp only[lkS]at hj;by_cases j0:C.nx=j
  .subst j0
   simp at hj;exact⟨rfl,hj.symm⟩
  .rw[zq j0]at hj
   simp at hj
 have hw:qhd [(C.nx,SR.clu (pool T Tw sz []) [])] [] C.nx (C.nx+1)=true:=by
  simp only[qhd,Xp,Xq,Zs,SR.all,SV.alls,Qs (show C.nx<=C.nx+1 by omega),Qs (Qn C.nx),xd (show C.nx<C.nx+1 by omega)]
 have hs:qr5 [] [(C.nx,SR.clu (pool T Tw sz []) [])] [] C ρ S (upd ρ C.nx (.ag [])):=⟨λj hj=>jq _ _ Om,λj r hj=>by
  obtain⟨rfl,rfl⟩:=key j r hj;rw[zi]
  exact⟨[],rfl,trivial,Xl⟩,λj r hj o ho=>by
  obtain⟨rfl,rfl⟩:=key j r hj;rw[zi]at ho
  simp[qr,jn]at ho,λj j' r r' d7 h1 h2=>absurd ((key j r h1).1.trans (key j' r' h2).1.symm) d7,λd v hd=>by simp[lkS]at hd⟩
 obtain⟨ρ2,g1,g2⟩:=h.run S0 F _ t S (by simp only;omega) (hR.swap hw hs);exact⟨ρ2,λk hk=>(g1 k hk).trans (jq _ _ Om),g2⟩
theorem finN{C C2:Conf}{T Tw:TypeId}{sz:Nat}(h:EntE 0 ⟨C.sl,qa3 []++(qa5 [(C.nx,.clu (pool T Tw sz []) [])]++C.hp),C.nx+1⟩ C2):∃C1,Red 0 C C1∧EntE 0 C1 C2:=⟨_,q90 qm3,h⟩
theorem qw5{E:Env}{rd:Option Nat}{N:Nat}{B:Bs}{Q:Exit->Conf->Prop}{C:Conf}{T Tw:TypeId}{sz:Nat}{a b:List PM}{f:List AV}{o:Nat}(id:Nat){ops:Array Oper}{g:Bool}(n n2:Nat)(svs:List SV)(h0:hpF C.hp n=some (.cells T (svs++[.a zf])))(h2:hpF C.hp n2=some (.clu (hole T Tw sz a b o) [.bx n 0]))(d7:Qv n n2=false)(gx:∀ρ,SV.evs ρ svs=f)
  (h:Sm E rd N B (.region id ops g) Q ⟨C.sl,qa3 [n,n2]++(qa5 [(C.nx,.clu (pool T Tw sz (a++⟨o,f,[]⟩::b)) [])]++C.hp),C.nx+1⟩):Sm E rd N B (.region id ops g) Q C:=q05 n n2 svs h0 h2 d7 gx h
def delM{α:Type}[DecidableEq α](s:α):List (α×Int)->List (α×Int)
 | []=>[]
 |q::r=>if q.1=s then r else q::delM s r
section
variable {α : Type} [DecidableEq α] {kd : TypeDesc} {key : α → Value}
theorem q8x(hs:∀a b,Instr.sameNow kd (key a) (key b)=some (decide (b=a)))(s:α):∀(L:List (α×Int))(pre:List (Value×Value)),∃r,yx kd (key s) (L.map (kvM key)) pre.length=some r∧mdel (pre++L.map (kvM key)) r=pre++(delM s L).map (kvM key)
 | [],pre=>⟨none,rfl,rfl⟩
 |q::r,pre=>by
  rw[Qk,yx]
  show∃r',(match Instr.sameNow kd (key s) (key q.1)with|some true=>_|some false=>_|none=>_)=some r'∧_
  rw[hs];unfold delM;by_cases h:q.1=s
  .rw[if_pos h]
   simp only[h,decide_true];refine⟨_,rfl,?_⟩;simp only[mdel];rw[List.eraseIdx_append_of_length_le (Qn _),Nat.sub_self];rfl
  .rw[if_neg h]
   simp only[h,decide_false];obtain⟨r',h1,h3⟩:=q8x hs s r (pre++[kvM key q]);rw[Qf,List.length_singleton]at h1;exact⟨r',h1,by simpa using h3⟩
variable {E : Env} {N : Nat} {ops : Array Oper} {nx : Nat} {sl : List (Nat × SV)} {H : Nat → Option SR} {k : Ef → Prop} {d : Option Tmp} {T : TypeId} {p : String} {af : Array Edge}
theorem qmr{t u kt vt:TypeId}{x y:Operand}{b:Nat}{L:List (α×Int)}{v:SV}{s:α}(hs:∀a b,Instr.sameNow kd (key a) (key b)=some (decide (b=a)))(hx:sval N sl x=some (.tp b))(hH:H b=some (.obj (mapP (L.map (kvM key)))))(hy:sval N sl y=some v)(hv:∀ρ,v.ev ρ=.v (key s))
  (hu:E.P.underlying t=some (.map kt vt)) (hk:E.P.underlying kt=some kd) (r7:mkey kd (key s)=true)
  (h:k ⟨.tu [],[b],[(b,some (.obj (mapP ((delM s L).map (kvM key)))))],nx⟩):∃e,Loc E N ops ⟨d,.call ⟨.builtin .delete,#[x,y],#[t,u]⟩,T,p,af,none⟩ nx sl H e∧k e:=by
 obtain⟨r,h1,h2⟩:=q8x hs s L [];simp only[Ql]at h2;rw[<-h2]at h;exact zfx hx hH hy hv hu hk r7 h1 h
end
end Go.Av
namespace Go.Av
open Go Go.RowKit Go.Proofs
open Go.WideElems (Fit rd rg)
open Go.Maps (Keyed)
open Go.MapKept (stamped_iff)
open Go.WideMaps (keyOf_string_mk)
open Go.WideShapes (sorted_perm)
def qeg(l:List (List UInt8)):List (List UInt8):=l.mergeSort λx y=>decide (x<=y)
theorem qua(l:List (List UInt8)):(qeg l).Perm l:=List.mergeSort_perm l _
theorem zb.pubFresh{B0:Nat}{w0:World}{G:Gh}{st:List AObj}{w w':World}(h:zb B0 w0 G st w)(hb:Below w.heap.size w w'){g:Nat}(hg:w.heap.size<=g){T:TypeId}{c:Array Value}{fz:Nat×Nat}(hc:w'.heap[g]?=some (.cells c T fz))(vs:List Value)(hv:∀(i:Nat)(y:Value),vs[i]?=some y->c[i]?=some y):
  G.le (G.publish g vs)∧zb B0 w0 (G.publish g vs) st w':=by
 have hn:G.pub g=none:=by
  cases hp:G.pub g with
  |none=>rfl
  |some vs=>exact absurd (h.pub_lt hp) Om
 have d8:=G.le_publish g vs [] [] (.inl hn);have h':=h.fresh hb;refine⟨d8,h'.below,h'.hB,h'.n,λb ws lx=>?_,λo x hx=>?_,h'.sep⟩
 .by_cases e:b=g
  .subst e
   simp[Gh.publish]at lx;subst lx;exact⟨c,T,fz,hc,hv⟩
  .exact h'.pub b ws (by simpa[Gh.publish,e]using lx)
 .refine(h'.ob o x hx).mono d8 rfl (λhl=>?_) (λ_=>rfl)
  have:=(h.ob o x hx).lt hl;have d7:(G.ob o).blk≠g:=Om
  simp[Gh.publish,d7]
theorem zcb{P:Program}{k:TypeId}(hk:P.underlying k=some .string){es:List MapEntry}{clock:Nat}{L:List (List UInt8×Int)}(he:es.map kvE=L.map (kvM keyS))(hf:qb4 es clock)(hn:(L.map Qo).Nodup)(hl:L.length<=maxLen)(hs:∀q∈L,q.1.length<=maxLen){w:World}{b:Nat}(hb:w.heap[b]?=some (.map es.toArray clock)):
  ∃D:DataW Unit,w.ownsMap P k (λ_=>some (.nil,[])) b L.length D∧Maps.size D=L.length∧(strKeys D).Perm (L.map Qo):=by
 have b9:es.length=L.length:=by
  have:=congrArg Xz he
  simpa using this
 have hkey:∀(i:Nat)(e:MapEntry),es[i]?=some e->∃q,L[i]?=some q∧e.key=keyS q.1:=λi e hi=>by
  have h1:(es.map kvE)[i]?=some (kvE e):=by rw[Qd,hi];rfl
  rw[he,Qd]at h1
  cases hq:L[i]?with
  |none=>rw[hq]at h1;simp at h1
  |some q=>
   rw[hq]at h1;simp only[Xa,Qh]at h1;exact⟨q,rfl,(congrArg Qo h1).symm⟩
 have gn:∀(i:Nat)(e:MapEntry),es[i]?=some e->∃q,L[i]?=some q∧rd P k (λ_=>some ((.nil:DataW Unit),[])) e=some (.string q.1,.nil):=λi e hi=>by
  obtain⟨q,h1,h2⟩:=hkey i e hi;refine⟨q,h1,?_⟩;have o9:=hs q (Xb h1);have:=keyOf_string_mk hk (s:=⟨q.1.toArray⟩) (by simpa[ByteArray.size]using o9);unfold rd;rw[h2];unfold keyS;rw[this];simp
 have mg:es.map (rg P k λ_=>some ((.nil:DataW Unit),[]))=L.map λq=>(Lit.string q.1,.nil):=by
  apply List.ext_getElem?;intro i;rw[Qd,Qd]
  cases hi:es[i]?with
  |none=>
   have:L[i]?=none:=List.getElem?_eq_none (by have:=List.getElem?_eq_none_iff.1 hi;omega);rw[this]
   rfl
  |some e=>
   obtain⟨q,h1,h2⟩:=gn i e hi;rw[h1];simp only[Xa,rg,h2,Xh]
 refine⟨.map ((es.toArray.toList.map (rg P k λ_=>some (.nil,[]))).foldr DataW.insert []),⟨es.toArray,clock,hb,⟨So,(stamped_iff _ _).2 ⟨by simpa using hf.lt,?_,?_⟩,λx hx=>?_⟩,So,rfl⟩,?_,?_⟩
 .simp only[Zo]
  exact List.pairwise_map.2 (hf.up.imp λh=>Nat.ne_of_lt h)
 .simp only[Zo]
  rw[Zp];intro i j hi hj tw e;obtain⟨q,h1,h2⟩:=hkey i es[i] (Qu hi);obtain⟨q',h3,h4⟩:=hkey j es[j] (Qu hj);rw[e,h4]at h2
  have e2:q.1=q'.1:=by
   simp only[keyS,Value.string.injEq,ByteArray.mk.injEq]at h2;exact(Array.toList_inj.2 h2.symm)
  have h5:=(Zp.1 hn) i j So So tw;simp only[List.getElem_map]at h5;obtain⟨l1,rfl⟩:=Qy.1 h1;obtain⟨l2,rfl⟩:=Qy.1 h3;exact h5 e2
 .simp only[Zo]at hx
  obtain⟨i,hi⟩:=Xo hx;obtain⟨q,_,h2⟩:=gn i x hi;exact⟨_,h2⟩
 .show((es.toArray.toList.map (rg P k λ_=>some (.nil,[]))).foldr DataW.insert []).length=_
  rw[length_sorted]
  simpa using b9
 .show(((es.toArray.toList.map (rg P k λ_=>some ((.nil:DataW Unit),[]))).foldr DataW.insert []).map λp=>strOf p.1).Perm _
  refine((sorted_perm _).map _).trans ?_;simp only[Zo];rw[mg,Xy];have:((λp:Lit×DataW Unit=>strOf p.1)∘λq:List UInt8×Int=>(Lit.string q.1,(.nil:DataW Unit)))=Qo:=rfl;rw[this]
theorem qwf(xs:List (List UInt8)):flat (xs.map λx=>Sv x)=xs.map λx=>Sv x:=by
 induction xs with
 |nil=>rfl
 |cons a xs ih=>rw[Qk,qbj,ih];rfl
theorem q4k{E:Env}{f g:FuncId}{k:TypeId}{st:List AObj}{kb om clock:Nat}{T:TypeId}{es:List MapEntry}{L:List (List UInt8×Int)}(hk:E.P.underlying k=some .string)(he:es.map kvE=L.map (kvM keyS))(hf:qb4 es clock)(hn:(L.map Qo).Nodup)(hl:L.length<=1000000)(hs:∀q∈L,q.1.length<=maxLen)
  (hkb:st[kb]?=some (.cells 0 T [.mp om])) (hom:st[om]?=some (.map es clock))
  (hC:∀(w:World)(Bm b nn:Nat)(D:DataW Unit),Bm<w.heap.size->w.cell? ⟨Bm,0,none⟩=some (.map (some b))->w.ownsMap E.P k (λ_=>some (.nil,[])) b nn D->Maps.size D<=maxLen->Maps.size D*16<=140737488355328->
   Calls E.P f #[.func (.func g) #[] #[.pointer (some ⟨Bm,0,none⟩)]] w λe w'=>∃(v:Value)(ss:List (List UInt8)),e=.returned v∧ss.Perm (strKeys D)∧w'.ownsRow w.heap.size k 1 v ss.length ((ss.mergeSort (λx y=>decide (x<=y))).map encStr)∧(v=.slice none 0 0↔ss=[])∧Below w.heap.size w w'):
  qm E f [.fn (.func g) [] [.bx kb 0 0]] st λr st'=>r=.sl 1 ((qeg (L.map Qo)).map λx=>Sv x) none∧st'=st:=by
 refine⟨λB0 w0 G vs w hL hA hR=>?_⟩
 obtain⟨v,rfl⟩:∃v,vs= #[v]:=by
  have h1:vs.size=1:=by have:=hR.1;simpa using this.symm
  refine⟨vs[0],Xv (by simp[h1]) λi h2 h3=>?_⟩;have:i=0:=Om
  subst this;rfl
 have hr:=hR.2 0 _ v rfl rfl;obtain⟨h0,h1,h2,h3,c,h4,h5,h6⟩:=hA.ob kb _ hkb;obtain⟨_,_,m4⟩:=hA.ob om _ hom;have e8:=(hA.ob kb _ hkb).lt trivial
 cases hr with
 |fn _ _ _ a' b' g1 g2 _ g4=>
  obtain rfl:a'= #[]:=by
   apply Array.eq_empty_of_size_eq_zero
   simpa using g1.symm
  obtain⟨y,rfl⟩:∃y,b'= #[y]:=by
   have h1:b'.size=1:=by simpa using g2.symm
   refine⟨b'[0],Xv (by simp[h1]) λi h2 h3=>?_⟩;have:i=0:=Om
   subst this;rfl
  have hy:=g4 0 _ y rfl rfl
  cases hy with
  |bx _ _ _ bk k1 k2 k3=>
   have rk:=k3 h1;subst rk;have mt:c.size=1:=by simpa using h5.symm
   have hm:=h6 0 (.mp om) (c[0]'(by omega)) rfl (by simp[mt])
   obtain⟨bm,hbm,sb⟩:∃bm,c[0]'(by omega)=.map (some bm)∧bm=(G.ob om).blk:=by
    generalize c[0]'(by omega)=z at hm
    cases hm with
    |mp _ b q1 q2 q3=>exact⟨b,rfl,q3.symm⟩
   subst sb;obtain⟨D,d1,d2,d3⟩:=zcb hk he hf hn (by have h0:(1000000:Nat)<=maxLen:=(by decide);omega) hs m4
   have s9:w.cell? ⟨(G.ob kb).blk,0,none⟩=some (.map (some (G.ob om).blk)):=by
    simp only[World.cell?,h4,Xg,Option.isSome_none,Bool.false_eq_true,if_false];rw[Array.getElem?_eq_getElem Om,hbm]
   refine(hC w _ _ _ D e8 s9 d1 (by have h0:(1000000:Nat)<=maxLen:=(by decide);omega) Om).mono ?_;rintro e w' ⟨v,ss,rfl,hp,hrow,hnil,hB⟩;have hms:ss.mergeSort (λx y=>decide (x<=y))=qeg (L.map Qo):=mergeSort_of_perm (hp.trans d3);rw[hms]at hrow;have px:(qeg (L.map Qo)).length=ss.length:=by rw[<-hms,List.length_mergeSort]
   rcases hrow.2 with⟨rfl,hz⟩|⟨gb,cap,cur,rfl,hbase,hgb,r1,r2,r3,r4⟩
   .have hss:qeg (L.map Qo)=[]:=Xc Om
    rw[hss];exact⟨_,G,_,st,rfl,.refl G,hA.fresh hB,.sl0 1 none none 0 (λt ht=>by simp at ht),rfl,rfl⟩
   .rw[Nat.mul_one]at r4
    obtain⟨d8,hA'⟩:=hA.pubFresh hB hbase hgb ((qeg (L.map Qo)).map encStr) (λi y hy=>by
     rw[<-r4,List.getElem?_take]at hy;split at hy
     .simpa using hy
     .simp at hy)
    refine⟨_,_,_,st,rfl,d8,hA',?_,rfl,rfl⟩
    have:=Rel.sl (G:=G.publish gb ((qeg (L.map Qo)).map encStr)) 1 ((qeg (L.map Qo)).map λx=>Sv x) none gb 0 cap ((qeg (L.map Qo)).map encStr) (by simp[Gh.publish]) (λx hx=>by
     obtain⟨l,_,rfl⟩:=Zl.1 hx
     rfl) (by rw[qwf];simp) (λi x y h1 h2=>by
     rw[qwf,Qd]at h1;rw[Xg,Qd]at h2
     cases hx:(qeg (L.map Qo))[i]?with
     |none=>rw[hx]at h1;simp at h1
     |some l=>
      rw[hx]at h1 h2;simp only[Xa,Qh]at h1 h2;subst h1;subst h2
      exact .v _) (λt ht=>by simp at ht) So
    simpa[px]using this
theorem q1p{E:Env}{f:FuncId}(hC:∀(b:Nat)(es:Array MapEntry)(clock:Nat)(w:World),w.heap[b]?=some (.map es clock)->Calls E.P f #[.map (some b)] w λe w'=>e=.returned (.map (some w.heap.size))∧w'=w.alloc (.map es clock)){st:List AObj}{o clock:Nat}{es:List MapEntry}(ho:st[o]?=some (.map es clock)):
  qm E f [.mp o] st λr st'=>r=.mp st.length∧st'=st++[.map es clock]:=by
 refine⟨λB0 w0 G vs w hL hA hR=>?_⟩
 obtain⟨v,rfl⟩:∃v,vs= #[v]:=by
  have h1:vs.size=1:=by have:=hR.1;simpa using this.symm
  refine⟨vs[0],Xv (by simp[h1]) λi h2 h3=>?_⟩;have:i=0:=Om
  subst this;rfl
 have hr:=hR.2 0 _ v rfl rfl;obtain⟨_,_,m4⟩:=hA.ob o _ ho
 cases hr with
 |mp _ b q1 q2 q3=>
  subst q3;refine(hC _ _ _ w m4).mono ?_;rintro e w' ⟨rfl,rfl⟩;have hn:=hA.n
  have hA':=hA.newAny 0 true (.map es clock) (.map es.toArray clock) ⟨by simp[Gh.new,hn],by simp[Gh.new,hn];exact hA.hB,by
   have e:((G.new 0 w.heap.size 0 true).ob st.length).blk=w.heap.size:=by simp[Gh.new,hn]
   rw[e]
   exact ww w _⟩
  exact⟨.map (some w.heap.size),_,_,_,rfl,G.le_new _ _ _ _,hA',.mp _ _ (by simp[Gh.new,hn]) (by simp[Gh.new,hn]) (by simp[Gh.new,hn]),rfl,rfl⟩
end Go.Av
namespace Go.Pl
open Go Go.Av
structure kz where
 text:qa
 pos:Int
 cut:Bool
 deriving DecidableEq
def kz.units(w:kz):Int:=if w.cut then 1 else w.text.length
def kz.onto(w:kz)(s:qa)(n:Int):qa:=if w.cut then s.take (min w.pos (s.length:Int)).toNat else s++w.text.take n.toNat
def km:qa->List kz->Int->qa
 |s,[],_=>s
 |s,w::r,u=>
  let n:=if 0<=u then min w.units u else w.units
  km (if 0<n then w.onto s n else s) r (if 0<=u then u-n else u)
structure zj where
 sure:qa
 waits:List kz
 deriving DecidableEq
def zj.seen(f:zj):qa:=km f.sure f.waits (-1)
def zj.crash(f:zj)(u:Int):zj:=⟨km f.sure f.waits u,[]⟩
structure xi where
 put:qa
 take:qa
 file:Int
 deriving DecidableEq
def qcs(l:List (qa×Int))(m:xi):List (qa×Int):=if m.put=[]then delM m.take l else setM m.put m.file (delM m.take l)
def dirM(l:List (qa×Int))(ms:List xi):List (qa×Int):=ms.foldl qcs l
def hasM(s:qa)(l:List (qa×Int)):Bool:=l.any λq=>decide (q.1=s)
structure ActV where
 kind:Int
 name:qa
 other:qa
 bytes:qa
 pos:Int
 deriving DecidableEq
structure qc where
 units:Int
 left:Int
 armed:Bool
 gone:Bool
 room:Int
 files:List zj
 sure:List (qa×Int)
 waits:List xi
 acts:List ActV
def qc.dir(d:qc):List (qa×Int):=dirM d.sure d.waits
def qac:qa:=[97,98,99,100,101,102,103,104,105,106,107,108,109,110,111,112,113,114,115,116,117,118,119,120,121,122,48,49,50,51,52,53,54,55,56,57,46]
def y8(n:qa):Bool:=decide (n≠[])&&decide (n.length<=20)&&n.all λc=>qac.contains c
def qc.asked(d:qc)(ns:List qa):ErrV:=if ns.any (λn=> !y8 n)then .num 1 else if d.gone then .num 3 else .no
def qc.file(d:qc)(n:qa):ErrV×Int:=if d.asked [n]=.no then(if hasM n d.dir then(.no,getM n d.dir)else(.num 7,0))else(d.asked [n],0)
def qc.spend(d:qc)(n:Int):Int×qc:=
 let m:=if d.armed=true∧d.left<n then d.left else n
 (m,{d with units:=d.units+m,left:=if d.armed then d.left-m else d.left,gone:=d.gone||(d.armed&&decide (d.left<n))})
def qc.did(d:qc)(a:ActV):qc:={d with acts:=d.acts++[a]}
def qc.at(d:qc)(i:Int):zj:=d.files.getD i.toNat ⟨[],[]⟩
def qc.with(d:qc)(i:Int)(f:zj):qc:={d with files:=d.files.set i.toNat f}
def qc.create(d:qc)(n:qa):ErrV×qc:=
 if(d.file n).1=.no then(.num 12,d)else if(d.file n).1≠.num 7 then((d.file n).1,d)else
 let p:=d.spend 1
 if p.1<1 then(.num 3,p.2)else(.no,qc.did {p.2 with waits:=p.2.waits++[⟨n,[],(d.files.length:Int)⟩],files:=p.2.files++[⟨[],[]⟩]} ⟨1,n,[],[],0⟩)
def qgw(d:qc):List (qa×Int)->Int
 | []=>0
 |q::r=>(d.at q.2).seen.length+qgw d r
def qc.free(d:qc):Int:=max 0 (d.room-qgw d d.dir)
def qc.write(d:qc)(n t:qa):ErrV×qc:=
 if(d.file n).1≠.no then((d.file n).1,d)else if d.free<t.length then(.num 4,d)else
 let p:=d.spend t.length
 let f:=p.2.at (d.file n).2
 let d':=if 0<p.1 then(p.2.with (d.file n).2 ⟨f.sure,f.waits++[⟨t.take p.1.toNat,0,false⟩]⟩).did ⟨2,n,[],t.take p.1.toNat,0⟩else p.2
 (if p.1<t.length then .num 3 else .no,d')
def qc.cutF(d:qc)(n:qa)(k:Int):ErrV×qc:=
 if(d.file n).1≠.no then((d.file n).1,d)else if k<0∨((d.at (d.file n).2).seen.length:Int)<k then(.num 1,d)else
 let p:=d.spend 1
 if p.1<1 then(.num 3,p.2)else
 let f:=p.2.at (d.file n).2
 (.no,(p.2.with (d.file n).2 ⟨f.sure,f.waits++[⟨[],k,true⟩]⟩).did ⟨3,n,[],[],k⟩)
def qc.sync(d:qc)(n:qa):ErrV×qc:=
 if(d.file n).1≠.no then((d.file n).1,d)else
 let p:=d.spend 1
 if p.1<1 then(.num 3,p.2)else(.no,(p.2.with (d.file n).2 ⟨(p.2.at (d.file n).2).seen,[]⟩).did ⟨4,n,[],[],0⟩)
def qc.remove(d:qc)(n:qa):ErrV×qc:=
 if(d.file n).1≠.no then((d.file n).1,d)else
 let p:=d.spend 1
 if p.1<1 then(.num 3,p.2)else(.no,qc.did {p.2 with waits:=p.2.waits++[⟨[],n,0⟩]} ⟨6,n,[],[],0⟩)
def qc.syncDir(d:qc):ErrV×qc:=
 if d.asked []≠.no then(d.asked [],d)else
 let p:=d.spend 1
 if p.1<1 then(.num 3,p.2)else(.no,qc.did {p.2 with sure:=p.2.dir,waits:=[]} ⟨7,[],[],[],0⟩)
def qc.read(d:qc)(n:qa):ErrV×qa:=if d.gone then(.num 3,[])else if(d.file n).1≠.no then((d.file n).1,[])else(.no,(d.at (d.file n).2).seen)
def qc.crash(d:qc)(k:Int)(data:List Int):qc:=
 {d with sure:=dirM d.sure (d.waits.take (max 0 (min k d.waits.length)).toNat),waits:=[],files:=d.files.mapIdx λi f=>f.crash (max 0 (data.getD i 0)),armed:=false,gone:=false}
def newD(room:Int):qc:=⟨0,0,false,false,room,[],[],[],[]⟩
structure qc.Ok (d:qc):Prop where
 dir:∀q∈d.sure,0<=q.2∧q.2<d.files.length
 wt:∀m∈d.waits,m.put≠[]->0<=m.file∧m.file<d.files.length
 one:(d.sure.map Qo).Nodup
theorem qge{s:qa}:∀{l:List (qa×Int)}{q:qa×Int},q∈delM s l->q∈l
 | [],q,h=>by simp[delM]at h
 |p::r,q,h=>by
  unfold delM at h;split at h
  .exact Qe _ h
  .rcases Qj.1 h with h|h
   .exact h▸Qp ..
   .exact Qe _ (qge h)
theorem qm4{s:qa}{n:Int}:∀{l:List (qa×Int)}{q:qa×Int},q∈setM s n l->q=(s,n)∨q∈l
 | [],q,h=>by simp[setM]at h;exact .inl h
 |p::r,q,h=>by
  unfold setM at h;split at h
  .rcases Qj.1 h with h|h
   .exact .inl h
   .exact .inr (Qe _ h)
  .rcases Qj.1 h with h|h
   .exact .inr (h▸Qp ..)
   .exact(qm4 h).imp_right (Qe _)
theorem zck{l:List (qa×Int)}{m:xi}{n:Int}(hl:∀q∈l,0<=q.2∧q.2<n)(hm:m.put≠[]->0<=m.file∧m.file<n):∀q∈qcs l m,0<=q.2∧q.2<n:=λq hq=>by
 unfold qcs at hq;split at hq
 .exact hl q (qge hq)
 .rename_i hp
  rcases qm4 hq with rfl|hq
  .exact hm hp
  .exact hl q (qge hq)
theorem qlg:∀{ms:List xi}{l:List (qa×Int)}{n:Int},(∀q∈l,0<=q.2∧q.2<n)->(∀m∈ms,m.put≠[]->0<=m.file∧m.file<n)->∀q∈dirM l ms,0<=q.2∧q.2<n
 | [],l,n,hl,_=>hl
 |m::r,l,n,hl,hm=>qlg (ms:=r) (zck hl (hm m (Qp ..))) λx hx=>hm x (Qe _ hx)
theorem qc.Ok.file{d:qc}(h:d.Ok){n:qa}(hf:(d.file n).1=.no):0<=(d.file n).2∧(d.file n).2<d.files.length:=by
 have hd:=qlg h.dir h.wt
 have key:∀l:List (qa×Int),(∀q∈l,0<=q.2∧q.2<(d.files.length:Int))->hasM n l=true->0<=getM n l∧getM n l<d.files.length:=λl=>by
  induction l with
  |nil=>intro _ h;simp[hasM]at h
  |cons q r ih=>
   intro hl hh;unfold getM;split
   .exact hl q (Qp ..)
   .rename_i hq
    refine ih (λx hx=>hl x (Qe _ hx)) ?_
    simpa[hasM,hq]using hh
 unfold qc.file at hf⊢;split at hf
 .rename_i ha
  rw[if_pos ha];split at hf
  .rename_i hh
   rw[if_pos hh];exact key _ hd hh
  .simp at hf
 .rename_i ha
  exact absurd hf ha
def qbq(l:List kz):Nat:=(l.map λw=>w.text.length).sum
theorem qp2:∀(l:List kz)(s:qa)(u:Int),(km s l u).length<=s.length+qbq l
 | [],s,u=>by simp[km]
 |w::r,s,u=>by
  have key:∀(n:Int),((if 0<n then w.onto s n else s):qa).length<=s.length+w.text.length:=λn=>by
   split
   .unfold kz.onto
    split
    .simp;omega
    .simp;omega
   .omega
  unfold km;refine Zg (qp2 r _ _) ?_;have:=key (if 0<=u then min w.units u else w.units);simp only[qbq,Qk,List.sum_cons]at this⊢;omega
structure zj.Bd (N:Nat) (f:zj):Prop where
 wl:f.waits.length<=N
 tl:f.sure.length+qbq f.waits<=N
 cp:∀w∈f.waits,0<=w.pos
structure qc.Bd (N:Nat) (d:qc):Prop where
 ok:d.Ok
 u0:0<=d.units
 u1:d.units<=N
 l0:0<=d.left
 l1:d.left<9223372036854775808
 r0:0<=d.room
 r1:d.room<=2199023255552
 fl:d.files.length<=N
 wl:d.sure.length+d.waits.length<=N
 al:d.acts.length<=N
 ft:∀f∈d.files,f.Bd N
 nm:(∀q∈d.sure,q.1.length<1000000)∧∀m∈d.waits,m.put.length<1000000
theorem zj.Bd.mono{N M:Nat}{f:zj}(h:f.Bd N)(hm:N<=M):f.Bd M:=⟨Zg h.wl hm,Zg h.tl hm,h.cp⟩
theorem qc.Bd.mono{N M:Nat}{d:qc}(h:d.Bd N)(hm:N<=M):d.Bd M:=⟨h.ok,h.u0,by have:=h.u1;omega,h.l0,h.l1,h.r0,h.r1,Zg h.fl hm,Zg h.wl hm,Zg h.al hm,λf hf=>(h.ft f hf).mono hm,h.nm⟩
theorem zj.Bd.behind{N:Nat}{f:zj}(h:f.Bd N)(u:Int):(km f.sure f.waits u).length<=N:=Zg (qp2 _ _ _) h.tl
theorem zj.Bd.flat{N:Nat}{f:zj}(h:f.Bd N)(u:Int):(⟨km f.sure f.waits u,[]⟩:zj).Bd N:=⟨Xj _,by have:=h.behind u;simpa[qbq]using this,λw hw=>by simp at hw⟩
theorem qc.Bd.at{N:Nat}{d:qc}(h:d.Bd N)(i:Int):(d.at i).Bd N:=by
 unfold qc.at;rw[List.getD_eq_getElem?_getD]
 cases hi:d.files[i.toNat]?with
 |none=>exact⟨Xj _,by simp[qbq],λw hw=>by simp at hw⟩
 |some f=>exact h.ft f (Xb hi)
theorem qrw{d:qc}{n:Int}(h0:0<=n)(hl:0<=d.left):0<=(d.spend n).1∧(d.spend n).1<=n:=by
 unfold qc.spend;simp only;split <;>omega
theorem qc.Bd.spend{N:Nat}{d:qc}(h:d.Bd N){n:Int}{k:Nat}(h0:0<=n)(hk:n<=k):(d.spend n).2.Bd (N+k):=by
 obtain⟨s0,s1⟩:=qrw (d:=d) h0 h.l0;have hN:=h.mono (Xi N k);have hu:=h.u1;have hu0:=h.u0;refine⟨⟨h.ok.dir,h.ok.wt,h.ok.one⟩,?_,?_,?_,?_,h.r0,h.r1,hN.fl,hN.wl,hN.al,hN.ft,h.nm⟩
 .show 0<=d.units+(d.spend n).1
  omega
 .show d.units+(d.spend n).1<=((N+k:Nat):Int)
  omega
 .show 0<=(if d.armed then d.left-(if d.armed=true∧d.left<n then d.left else n)else d.left)
  have:=h.l0;split
  .rename_i ha
   split
   .omega
   .rename_i hc
    have:¬d.left<n:=λh'=>hc ⟨ha,h'⟩;omega
  .omega
 .show(if d.armed then d.left-(if d.armed=true∧d.left<n then d.left else n)else d.left)<_
  have:=h.l0;have:=h.l1;split
  .split <;>omega
  .omega
theorem qc.Bd.did{N:Nat}{d:qc}(h:d.Bd N)(a:ActV):(d.did a).Bd (N+1):=by
 have hN:=h.mono (Xi N 1);exact⟨⟨h.ok.dir,h.ok.wt,h.ok.one⟩,h.u0,hN.u1,h.l0,h.l1,h.r0,h.r1,hN.fl,hN.wl,by show(d.acts++[a]).length<=_;have:=h.al;simp;omega,hN.ft,h.nm⟩
theorem qc.Bd.with{N:Nat}{d:qc}(h:d.Bd N){f:zj}(hf:f.Bd N)(i:Int):(d.with i f).Bd N:=by
 refine⟨⟨?_,?_,h.ok.one⟩,h.u0,h.u1,h.l0,h.l1,h.r0,h.r1,?_,h.wl,h.al,?_,h.nm⟩
 .intro q hq
  have:=h.ok.dir q hq
  simpa[qc.with]using this
 .intro m hm hp
  have:=h.ok.wt m hm hp
  simpa[qc.with]using this
 .have:=h.fl
  simpa[qc.with]using this
 .intro g hg
  rcases Xd hg with hg|rfl
  .exact h.ft g hg
  .exact hf
theorem qy7(s:qa):∀l:List (qa×Int),(delM s l).length<=l.length
 | []=>Qn _
 |q::r=>by
  unfold delM;split
  .simp
  .have:=qy7 s r
   simp only[Qm];omega
theorem q06(s:qa)(n:Int):∀l:List (qa×Int),(setM s n l).length<=l.length+1
 | []=>by simp[setM]
 |q::r=>by
  unfold setM;split
  .simp
  .have:=q06 s n r
   simp only[Qm];omega
theorem ql8:∀(ms:List xi)(l:List (qa×Int)),(dirM l ms).length<=l.length+ms.length
 | [],l=>Qn _
 |m::r,l=>by
  have h1:(qcs l m).length<=l.length+1:=by
   unfold qcs;have:=qy7 m.take l;split
   .omega
   .have:=q06 m.put m.file (delM m.take l)
    omega
  have:=ql8 r (qcs l m)
  show(dirM (qcs l m) r).length<=_
  simp only[Qm];omega
theorem qq3{s:qa}:∀{l:List (qa×Int)},(l.map Qo).Nodup->((delM s l).map Qo).Nodup
 | [],h=>h
 |q::r,h=>by
  simp only[Qk,Za]at h;unfold delM;split
  .exact h.2
  .simp only[Qk,Za]
   refine⟨λhm=>h.1 ?_,qq3 h.2⟩;obtain⟨x,h1,h2⟩:=Zl.1 hm;exact Zl.2 ⟨x,qge h1,h2⟩
theorem q07{s:qa}{n:Int}:∀{l:List (qa×Int)},(l.map Qo).Nodup->((setM s n l).map Qo).Nodup
 | [],h=>by simp[setM]
 |q::r,h=>by
  simp only[Qk,Za]at h;unfold setM;split
  .rename_i e
   simp only[Qk,Za];exact⟨λhm=>h.1 (by rw[e];exact hm),h.2⟩
  .rename_i e
   simp only[Qk,Za];refine⟨λhm=>?_,q07 h.2⟩;obtain⟨x,h1,h2⟩:=Zl.1 hm;rcases qm4 h1 with rfl|h1
   .exact e h2.symm
   .exact h.1 (Zl.2 ⟨x,h1,h2⟩)
theorem ql9:∀{ms:List xi}{l:List (qa×Int)},(l.map Qo).Nodup->((dirM l ms).map Qo).Nodup
 | [],l,h=>h
 |m::r,l,h=>ql9 (ms:=r) (by
  unfold qcs;split
  .exact qq3 h
  .exact q07 (qq3 h))
theorem qpg{K:Nat}:∀{ms:List xi}{l:List (qa×Int)},(∀q∈l,q.1.length<K)->(∀m∈ms,m.put.length<K)->∀q∈dirM l ms,q.1.length<K
 | [],l,h,_=>h
 |m::r,l,h,hm=>qpg (ms:=r) (l:=qcs l m) (λq hq=>by
  unfold qcs at hq;split at hq
  .exact h q (qge hq)
  .rcases qm4 hq with rfl|hq
   .exact hm m (Qp ..)
   .exact h q (qge hq)) λx hx=>hm x (Qe _ hx)
theorem qc.Bd.move{N:Nat}{d:qc}(h:d.Bd N)(m:xi)(hm:m.put≠[]->0<=m.file∧m.file<d.files.length)(gm:m.put.length<1000000):({d with waits:=d.waits++[m]}:qc).Bd (N+1):=by
 have hN:=h.mono (Xi N 1);refine⟨⟨h.ok.dir,?_,h.ok.one⟩,h.u0,hN.u1,h.l0,h.l1,h.r0,h.r1,hN.fl,by show d.sure.length+(d.waits++[m]).length<=_;have:=h.wl;simp;omega,hN.al,hN.ft,h.nm.1,?_⟩;rotate_left
 .intro x hx
  rcases Qa.1 hx with hx|hx
  .exact h.nm.2 x hx
  .rw[Qc]at hx
   rw[hx];exact gm
 intro x hx hp;rcases Qa.1 hx with hx|hx
 .exact h.ok.wt x hx hp
 .rw[Qc]at hx
  subst hx;exact hm hp
theorem qc.Bd.syncD{N:Nat}{d:qc}(h:d.Bd N):({d with sure:=d.dir,waits:=[]}:qc).Bd N:=by
 refine⟨⟨qlg h.ok.dir h.ok.wt,λm hm=>by simp at hm,ql9 h.ok.one⟩,h.u0,h.u1,h.l0,h.l1,h.r0,h.r1,h.fl,?_,h.al,h.ft,qpg h.nm.1 h.nm.2,λm hm=>by simp at hm⟩
 show(dirM d.sure d.waits).length+0<=N
 have:=ql8 d.waits d.sure;have:=h.wl;omega
theorem qc.Bd.dir1{N:Nat}{d:qc}(h:d.Bd N):d.dir.length<=N∧(d.dir.map Qo).Nodup∧∀q∈d.dir,0<=q.2∧q.2<d.files.length:=by
 have:=ql8 d.waits d.sure;have:=h.wl;exact⟨by unfold qc.dir;omega,ql9 h.ok.one,qlg h.ok.dir h.ok.wt⟩
theorem qc.Bd.create{N:Nat}{d:qc}(h:d.Bd N)(n:qa)(hn:n.length<1000000):(d.create n).2.Bd (N+1):=by
 have hs:=h.spend (n:=1) (k:=1) Om Om;unfold qc.create;split
 .exact h.mono Om
 .split
  .exact h.mono Om
  .simp only
   split
   .exact hs
   .refine⟨⟨?_,?_,h.ok.one⟩,hs.u0,hs.u1,hs.l0,hs.l1,hs.r0,hs.r1,?_,?_,?_,?_,h.nm.1,?_⟩
    .intro q hq
     have:=h.ok.dir q hq
     show 0<=q.2∧q.2<((d.files++[(⟨[],[]⟩:zj)]).length:Int)
     simp;omega
    .intro m hm hp
     show 0<=m.file∧m.file<((d.files++[(⟨[],[]⟩:zj)]).length:Int)
     rcases Qa.1 hm with hm|hm
     .have:=h.ok.wt m hm hp
      simp;omega
     .rw[Qc]at hm
      subst hm;simp;omega
    .show(d.files++[(⟨[],[]⟩:zj)]).length<=_
     have:=h.fl;simp;omega
    .show d.sure.length+(d.waits++[_]).length<=_
     have:=h.wl;simp;omega
    .show(d.acts++[_]).length<=_
     have:=h.al;simp;omega
    .intro f hf
     rcases Qa.1 hf with hf|hf
     .exact hs.ft f hf
     .rw[Qc]at hf
      subst hf;exact⟨Xj _,by simp[qbq],λw hw=>by simp at hw⟩
    .intro m hm
     rcases Qa.1 hm with hm|hm
     .exact h.nm.2 m hm
     .rw[Qc]at hm
      rw[hm];exact hn
theorem qc.Bd.write{N:Nat}{d:qc}(h:d.Bd N)(n t:qa):(d.write n t).2.Bd (N+t.length+1):=by
 have hs:=h.spend (n:=t.length) (k:=t.length) Om Om;unfold qc.write;split
 .exact h.mono Om
 .split
  .exact h.mono Om
  .simp only
   split
   .refine qc.Bd.did ?_ _
    refine hs.with ?_ _;have hf:=h.at (d.file n).2;refine⟨?_,?_,?_⟩
    .have:=hf.wl
     rename_i h0;have h1:=(qrw (d:=d) (n:=(t.length:Int)) Om h.l0).2
     show((d.at (d.file n).2).waits++[_]).length<=_
     simp;omega
    .have:=hf.tl
     show(d.at (d.file n).2).sure.length+qbq ((d.at (d.file n).2).waits++[_])<=_
     simp[qbq]at this⊢;omega
    .intro w hw
     rcases Qa.1 hw with hw|hw
     .exact hf.cp w hw
     .rw[Qc]at hw
      subst hw;exact Int.le_refl _
   .exact hs.mono Om
theorem qc.Bd.cutF{N:Nat}{d:qc}(h:d.Bd N)(n:qa)(k:Int):(d.cutF n k).2.Bd (N+2):=by
 have hs:=h.spend (n:=1) (k:=1) Om Om;unfold qc.cutF;split
 .exact h.mono Om
 .split
  .exact h.mono Om
  .rename_i hk
   simp only;split
   .exact hs.mono Om
   .refine qc.Bd.did (hs.with ?_ _) _
    have hf:=h.at (d.file n).2;refine⟨?_,?_,?_⟩
    .have:=hf.wl
     show((d.at (d.file n).2).waits++[_]).length<=_
     simp;omega
    .have:=hf.tl
     show(d.at (d.file n).2).sure.length+qbq ((d.at (d.file n).2).waits++[_])<=_
     simp[qbq]at this⊢;omega
    .intro w hw
     rcases Qa.1 hw with hw|hw
     .exact hf.cp w hw
     .rw[Qc]at hw
      subst hw
      show 0<=k
      omega
theorem qc.Bd.sync{N:Nat}{d:qc}(h:d.Bd N)(n:qa):(d.sync n).2.Bd (N+2):=by
 have hs:=h.spend (n:=1) (k:=1) Om Om;unfold qc.sync;split
 .exact h.mono Om
 .simp only
  split
  .exact hs.mono Om
  .exact qc.Bd.did (hs.with ((h.at _).flat _ |>.mono Om) _) _
theorem qc.Bd.remove{N:Nat}{d:qc}(h:d.Bd N)(n:qa):(d.remove n).2.Bd (N+3):=by
 have hs:=h.spend (n:=1) (k:=1) Om Om;unfold qc.remove;split
 .exact h.mono Om
 .simp only
  split
  .exact hs.mono Om
  .exact qc.Bd.did (hs.move _ (λh=>absurd rfl h) Sx) _
theorem q3r{n:qa}{K:Int}:∀{l:List (qa×Int)},(∀q∈l,0<=q.2∧q.2<K)->hasM n l=true->0<=getM n l∧getM n l<K
 | [],_,h=>by simp[hasM]at h
 |q::r,hl,hh=>by
  unfold getM;split
  .exact hl q (Qp ..)
  .rename_i hq
   refine q3r (λx hx=>hl x (Qe _ hx)) ?_
   simpa[hasM,hq]using hh
theorem qc.Bd.syncDir{N:Nat}{d:qc}(h:d.Bd N):d.syncDir.2.Bd (N+2):=by
 have hs:=h.spend (n:=1) (k:=1) Om Om;unfold qc.syncDir;split
 .exact h.mono Om
 .simp only
  split
  .exact hs.mono Om
  .exact qc.Bd.did hs.syncD _
theorem qc.Bd.crash{N:Nat}{d:qc}(h:d.Bd N)(k:Int)(data:List Int):(d.crash k data).Bd N:=by
 unfold qc.crash;refine⟨⟨?_,λm hm=>by simp at hm,ql9 h.ok.one⟩,h.u0,h.u1,h.l0,h.l1,h.r0,h.r1,?_,?_,h.al,?_,qpg h.nm.1 (λm hm=>h.nm.2 m (Zf hm)),λm hm=>by simp at hm⟩
 .have:=qlg (ms:=d.waits.take (max 0 (min k d.waits.length)).toNat) h.ok.dir λm hm=>h.ok.wt m (Zf hm)
  simpa using this
 .have:=h.fl
  simpa using this
 .have:=ql8 (d.waits.take (max 0 (min k d.waits.length)).toNat) d.sure
  have:=h.wl;simp only[List.length_take,Zc]at *;omega
 .intro f hf
  obtain⟨i,h1,h2⟩:=List.mem_mapIdx.1 hf;subst h2;exact(h.ft _ (Zu h1)).flat _
end Go.Pl
namespace Go.Av
open Go Go.RowKit
section
variable {α : Type} [DecidableEq α] {kd : TypeDesc} {key : α → Value}
theorem qwq(hs:∀a b,Instr.sameNow kd (key a) (key b)=some (decide (b=a)))(s:α):∀(L:List (α×Int))(i:Nat)(r:Option (Nat×Value)),yx kd (key s) (L.map (kvM key)) i=some r->r.isSome=L.any λq=>decide (q.1=s)
 | [],i,r,h=>by
  simp only[Xe,yx,Qh]at h;subst h
  rfl
 |q::L,i,r,h=>by
  rw[Qk,yx]at h;have e:Instr.sameNow kd (key s) (kvM key q).1=some (decide (q.1=s)):=hs s q.1;rw[e]at h;rw[Ze];by_cases hq:q.1=s
  .rw[decide_eq_true hq]at h⊢
   simp only[Qh]at h;subst h;rfl
  .rw[decide_eq_false hq]at h⊢
   rw[Xw];exact qwq hs s L (i+1) r h
variable {E : Env} {N : Nat} {ops : Array Oper} {nx : Nat} {sl : List (Nat × SV)} {H : Nat → Option SR} {k : Ef → Prop} {d : Option Tmp} {T : TypeId} {p : String} {af : Array Edge}
theorem qwp{t kt vt:TypeId}{x y:Operand}{b:Nat}{L:List (α×Int)}{v w:SV}{s:α}{g:Int}(hs:∀a b,Instr.sameNow kd (key a) (key b)=some (decide (b=a)))(hx:sval N sl x=some (.tp b))(hH:H b=some (.obj (mapP (L.map (kvM key)))))(hy:sval N sl y=some v)(hv:∀ρ,v.ev ρ=.v (key s))
  (hu:E.P.underlying t=some (.map kt vt)) (hk:E.P.underlying kt=some kd) (r7:mkey kd (key s)=true) (hz:(E.P.info? vt).bind (λi=>i.zero)=some (.int .i64 0)) (hg:getM s L=g) (hw:∀ρ,w.ev ρ=Bv (L.any λq=>decide (q.1=s)))
  (h:k ⟨.tu [.i g,w],[b],[],nx⟩):∃e,Loc E N ops ⟨d,.lookup t x y true,T,p,af,none⟩ nx sl H e∧k e:=by
 obtain⟨r,h1,h2,_⟩:=qu6 hs s 0 L [];obtain⟨e,g1,_⟩:=zcl (k:=λe=>e=⟨.tu [.i (getM s L),.b r.isSome],[b],[],nx⟩) hx hH hy hv hu hk r7 h1 hz h2 rfl;refine⟨_,?_,h⟩;intro df rd K rest ρ t' S ho hS gv;rename_i hE;subst hE;refine g1 df rd K rest ρ t' S ho hS λρ' S' hp=>?_;have:=gv ρ' S' ⟨hp.old,hp.sat,hp.len,hp.fr,hp.loc⟩
 have he:(SV.tu [.i g,w]).ev ρ'=(SV.tu [.i (getM s L),.b r.isSome]).ev ρ':=by
  simp only[SV.ev,SV.evs,hw,hg,qwq hs s L 0 r h1]
 simp only[he]at this;exact this
end
theorem q2t{P:Program}(w:World){t tx:TypeId}{ms:Array (String×TypeId)}{q:IntKind}(a b:Int)(ht:P.underlying t=some (.interface ms))(hc:(P.info? tx).map (·.comparable)=some true)(hx:P.underlying tx=some (.int q)):
  (binOp .neq t (.iface tx (.int .i64 a)) (.iface tx (.int .i64 b))).run P w=.ok (.bool (!(a==b))) w:=by
 cases hi:P.info? tx with
 |none=>simp[hi]at hc
 |some i=>
  have hcc:i.comparable=true:=by simpa[hi]using hc
  have h:∀d:Nat,(Op.equalIn (d+2) t (.iface tx (.int .i64 a)) (.iface tx (.int .i64 b))).run P w=.ok (a==b) w:=λd=>by
   simp[Op.equalIn,run_underlying ht,run_underlying hx,typeInfo,hi,hcc]
  simp only[binOp];simp[Op.equal,Op.maxDepth,h 9998]
theorem q5s{E:Env}{N:Nat}{ops:Array Oper}{nx:Nat}{sl:List (Nat×SV)}{H:Nat->Option SR}{k:Ef->Prop}{d:Option Tmp}{T:TypeId}{p:String}{af:Array Edge}{t tx t':TypeId}{x y:Operand}{vx vy:SV}{a b:Int}{ms:Array (String×TypeId)}{q:IntKind}(hx:sval N sl x=some vx)(h1:∀ρ,vx.ev ρ=.ifc tx (Iv a))(hy:sval N sl y=some vy)(h2:∀ρ,vy.ev ρ=.ifc tx (Iv b))
  (ht:E.P.underlying t=some (.interface ms)) (hc:(E.P.info? tx).map (·.comparable)=some true) (hu:E.P.underlying tx=some (.int q)) (h:k ⟨.p (¬a=b) inferInstance,[],[],nx⟩):∃e,Loc E N ops ⟨d,.binOp .neq t x y t',T,p,af,none⟩ nx sl H e∧k e:=by
 refine⟨_,jd (v:=.p (¬a=b) inferInstance) λdf rd K rest ρ t1 S hs hk=>qv rfl (qu nofun λB0 w0 G ac w _ hI=>?_),h⟩;have e1:=hI.eval_of ((qs hs hx).trans (h1 ρ));have e2:=hI.eval_of ((qs hs hy).trans (h2 ρ));generalize hv1:ac.eval x=v1 at e1;generalize hv2:ac.eval y=v2 at e2
 cases e1 with
 |ifc _ _ z1 r1=>
  cases e2 with
  |ifc _ _ z2 r2=>
   cases r1
   cases r2
   have hq:=q2t (P:=E.P) w a b ht hc hu;have hg:(eqGuard .neq t x y (.iface tx (.int .i64 a)) (.iface tx (.int .i64 b))).run E.P w=.ok () w:=by simp[eqGuard]
   have hd:(!(a==b))=decide (¬a=b):=by by_cases hab:a=b<;>simp[hab]
   rw[hd]at hq;refine⟨.bool (decide (¬a=b)),w,G,Bv (decide (¬a=b)),S,?_,.refl G,hI.agree,.v _,hk⟩;simp[execOp,hv1,hv2,hg,hq]
end Go.Av
namespace Go.Pl
open Go Go.Proofs
theorem qwb{p:UInt8->Bool}:∀{l:qa},l.dropWhile p=[]↔∀x∈l,p x=true
 | []=>by simp
 |a::r=>by
  rw[List.dropWhile_cons]
  cases h:p a with
  |true=>simp[h,qwb (l:=r)]
  |false=>simp[h]
theorem q1l(l cs:qa):Lib.trimS l cs=[]↔(l.all λc=>cs.contains c)=true:=by
 unfold Lib.trimS Lib.trimLeftS Lib.trimRightS;rw[qwb,Zb];constructor
 .intro h x hx
  cases hc:cs.contains x with
  |true=>rfl
  |false=>
   have:x∈(l.reverse.dropWhile (cs.contains ·)).reverse:=by
    rw[Zv]
    have h1:x∈l.reverse.takeWhile (cs.contains ·)++l.reverse.dropWhile (cs.contains ·):=by
     rw[List.takeWhile_append_dropWhile,Zv];exact hx
    rcases Qa.1 h1 with h1|h1
    .have:=Zb.1 (List.all_takeWhile (p:=(cs.contains ·)) (l:=l.reverse)) x h1
     rw[hc]at this
     cases this
    .exact h1
   have:=h x this;rw[hc]at this
   cases this
 .intro h x hx
  refine h x ?_;have:=(List.dropWhile_sublist (cs.contains ·) (l:=l.reverse)).subset (Zv.1 hx);exact Zv.1 this
def fstG(p:qa->Bool):Nat->List qa->Int
 |_,[]=> -1
 |k,x::r=>if p x=true then(k:Int)else fstG p (k+1) r
theorem qzq(p:qa->Bool):∀(xs:List qa)(k:Nat),0<=fstG p k xs↔xs.any p=true
 | [],k=>by simp[fstG]
 |x::r,k=>by
  unfold fstG;by_cases h:p x=true
  .rw[if_pos h]
   simp[h]
  .rw[if_neg h,qzq p r (k+1)]
   simp[h]
end Go.Pl
namespace Go.Proofs.YthnbabbhpeebbaaGreatDoor
open Go Go.Av Go.RowKit Go.Proofs Go.Pl
@[reducible] def qao (xs : List qa) : AV := .sl 1 (xs.map fun x => Sv x) none
@[reducible] def vm (w : kz) : AV := .ag [Sv w.text, Iv w.pos, Bv w.cut]
@[reducible] def qaa (m : xi) : AV := .ag [Sv m.put, Sv m.take, Iv m.file]
@[reducible] def actA (a : ActV) : AV := .ag [Iv a.kind, Sv a.name, Sv a.other, Sv a.bytes, Iv a.pos]
def pmsD(os:List Nat)(fs:List zj):List PM:=(os.zip fs).map λp=>⟨p.1,[Sv p.2.sure],p.2.waits.map vm⟩
@[reducible] def qzk (os : List Nat) (fs : List zj) : Clu := pool 98 114 3 (pmsD os fs)
@[reducible] def qde (os : List Nat) : List AV := os.map fun o => .bx o 0 0
@[reducible] def pwrF (u l : Int) (a g : Bool) (room : Int) (os : List Nat) (sure : List (qa × Int)) (waits : List xi) (acts : List ActV) : List (Nat × Option SR) :=
  [(0,some (.cells 91 [.i u,.i l,.b a,.b g,.i room,.tp 1,.tp 2,.tp 3,.tp 4])),
   (1,some (.tip 1 94 (qde os))),
   (2,some (.obj (mapP (sure.map (kvM keyS))))),
   (3,some (.tip 3 111 (waits.map qaa))),
   (4,some (.tip 5 67 (acts.map actA)))]
@[reducible] def pwrH (d : qc) (os : List Nat) : List (Nat × Option SR) := pwrF d.units d.left d.armed d.gone d.room os d.sure d.waits d.acts
@[reducible] def zy (d : qc) (os : List Nat) : List (Nat × Option SR) :=
  [(0,some (.cells 91 [.i d.units,.i d.left,.b d.armed,.b d.gone,.i d.room,.tp 1,.tp 2,.tp 3,.tp 4])),
   (1,some (.tip 1 94 (qde os))),
   (2,some (.obj (mapP (d.sure.map (kvM keyS))))),
   (3,some (.tip 3 111 (d.waits.map qaa))),
   (4,some (.tip 5 67 (d.acts.map actA))),
   (5,some (.clu (qzk os d.files) []))]
theorem qam{os:List Nat}{fs:List zj}(hl:os.length=fs.length){i:Nat}(hi:i<fs.length):∃(o:Nat)(f:zj)(oa ob:List Nat)(fa fb:List zj),os=oa++o::ob∧fs=fa++f::fb∧oa.length=i∧fa.length=i∧os[i]?=some o∧fs[i]?=some f:=by
 have h3:i<os.length:=Om
 refine⟨os[i],fs[i],os.take i,os.drop (i+1),fs.take i,fs.drop (i+1),?_,?_,So,So,Sx,Sx⟩
 .rw[<-Qz h3,Zk]
 .rw[<-Qz hi,Zk]
theorem w7{oa ob:List Nat}{fa fb:List zj}{o:Nat}{f:zj}(h:oa.length=fa.length):pmsD (oa++o::ob) (fa++f::fb)=pmsD oa fa++⟨o,[Sv f.sure],f.waits.map vm⟩::pmsD ob fb:=by
 unfold pmsD;rw[List.zip_append h];simp
theorem q9p{os:List Nat}{fs:List zj}(o:Nat)(h:os.length=fs.length):pmsD (os++[o]) (fs++[⟨[],[]⟩])=pmsD os fs++[⟨o,[Sv []],[]⟩]:=w7 (ob:=[]) (fb:=[]) h
theorem zgv(n:qa)(st:List AObj)(hl:n.length<1000000):qm E 107 [Sv n] st λr st'=>r=Bv (y8 n)∧st'=st:=by
 have ht:=λst=>qls n qac st Om rfl rfl;have h1:=q1l n qac;by_cases h0:n=[]
 .subst h0
  refine ja [.s []] (qw _) Tryz.func107 rfl rfl (λ_=>rfl) rfl λS0=>?_;apply qd [];repeat' (first|apply Qb|(intro h;try exact cDd)|exact⟨Tryz.call47⟩|refine cpe ht ?_|exact cSd|apply qb []|refine exr ?_|refine qf ?_)
  all_goals first|rfl|(simp;done)
 .by_cases h20:n.length<=20
  .cases i6:(n.all λc=>qac.contains c)with
   |true=>
    have e:y8 n=true:=by unfold y8;rw[i6];simp[h0,h20]
    rw[h1.2 i6]at ht;rw[e];refine ja [.s n] (qw _) Tryz.func107 rfl rfl (λ_=>rfl) rfl λS0=>?_;apply qd [];repeat' (first|apply Qb|(intro h;try exact cDd)|exact⟨Tryz.call47⟩|refine cpe ht ?_|exact cSd|apply qb []|refine exr ?_|refine qf ?_)
    all_goals first|rfl|omega|assumption|exact absurd h0 h|(simp;done)|(simp;exact d7)
   |false=>
    have e:y8 n=false:=by unfold y8;rw[i6];simp
    have d7:Lib.trimS n qac≠[]:=λh=>by rw[h1.1 h]at i6;cases i6
    rw[e];generalize Lib.trimS n qac=t at *;refine ja [.s n] (qw _) Tryz.func107 rfl rfl (λ_=>rfl) rfl λS0=>?_;apply qd [];repeat' (first|apply Qb|(intro h;try exact cDd)|exact⟨Tryz.call47⟩|refine cpe ht ?_|exact cSd|apply qb []|refine exr ?_|refine qf ?_)
    all_goals first|rfl|omega|assumption|exact absurd h0 h|(simp;done)|(simp;exact d7)
  .have e:y8 n=false:=by unfold y8;simp[h20]
   rw[e];refine ja [.s n] (qw _) Tryz.func107 rfl rfl (λ_=>rfl) rfl λS0=>?_;apply qd [];repeat' (first|apply Qb|(intro h;try exact cDd)|exact⟨Tryz.call47⟩|refine cpe ht ?_|exact cSd|apply qb []|refine exr ?_|refine qf ?_)
   all_goals first|rfl|omega|assumption|exact absurd h0 h|(simp;done)|(simp;exact d7)
theorem za5(s:qa)(st:List AObj)(hl:s.length<1000000):qm E 106 [Sv s] st λr st'=>r=Bv (!y8 s)∧st'=st:=by
 have h:=λst=>zgv s st hl;refine ja [.s s] (qw _) Tryz.func106 rfl rfl (λ_=>rfl) rfl λS0=>?_
 cases hg:y8 s with
 |true=>
  rw[hg]at h;apply qd []
  repeat' (first|apply Qb|(intro h;try exact cDd)|exact⟨Tryz.call107⟩|refine cpe h ?_|exact cSd|apply qb []|refine exr ?_|refine qf ?_)
 |false=>
  rw[hg]at h;apply qd [];repeat' (first|apply Qb|(intro h;try exact cDd)|exact⟨Tryz.call107⟩|refine cpe h ?_|exact cSd|apply qb []|refine exr ?_|refine qf ?_)
@[reducible] def qsn : AV := .fn (.func 106) [] []
theorem zhs(xs:List qa)(st:List AObj)(hl:xs.length<1000000)(hx:∀x∈xs,x.length<1000000):qm E 139 [qao xs,qsn] st λr st'=>r=Iv (fstG (λs=> !y8 s) 0 xs)∧st'=st:=by
 refine ja [.a (qao xs),.a qsn] (qw _) Tryz.func139 rfl rfl (λ_=>rfl) rfl λS0=>?_;have bf:(xs.map λx=>Sv x).length=xs.length:=Sx
 apply qd [];repeat' (first|apply Qb|(intro h;try exact cDd)|exact cSd|apply qb []|refine exr ?_|refine qf ?_)
 refine xx (X:=Nat) (λk=>⟨[(0,.a (qao xs)),(1,.a qsn),(7,.i xs.length),(8,.i k)],[],0⟩) (λk=>k<=xs.length∧fstG (λs=> !y8 s) k (xs.drop k)=fstG (λs=> !y8 s) 0 xs) (λk=>xs.length-k) 0 ⟨Om,Sx⟩ ?_ ?_
 .skip
  repeat' (first|apply Qb|(intro h;try exact cDd)|exact cSd|apply qb []|refine exr ?_|refine qf ?_)
  all_goals first|assumption|rfl|(simp;done)
 .rintro k ⟨hk,a8⟩
  by_cases r8:k<xs.length
  .have hx2:xs[k]?=some xs[k]:=Qu r8
   have s7:(xs.map λx=>Sv x)[k]?=some (Sv xs[k]):=by rw[Qd,hx2];rfl
   rw[Qz r8,fstG]at a8;have h1:=λst=>za5 xs[k] st (hx _ (Zu r8));generalize xs[k]=s at hx2 s7 a8 h1
   cases hd:y8 s with
   |false=>
    rw[hd]at h1;rw[if_pos (by rw[hd];rfl)]at a8;rw[<-a8];apply qd [];repeat' (first|apply Qb|(intro h;try exact cDd)|(refine Qg (k) ⟨Om,_,s7,?_⟩)|exact⟨Tryz.call106⟩|refine cpe h1 ?_|exact cSd|apply qb []|refine exr ?_|refine qf ?_)
    all_goals first|assumption|rfl
   |true=>
    rw[hd]at h1;rw[if_neg (by rw[hd];simp)]at a8;apply qd [];repeat' (first|apply Qb|(intro h;try exact cDd)|(refine Qg (k) ⟨Om,_,s7,?_⟩)|exact⟨Tryz.call106⟩|refine cpe h1 ?_|(refine Qg (k+1) ⟨⟨Om,a8⟩,Om,?_⟩)|exact cSd|apply qb []|refine exr ?_|refine qf ?_)
    all_goals first|assumption|rfl
  .have r8:k=xs.length:=by omega
   subst r8;rw[Xt,fstG]at a8;rw[<-a8];apply qd [];repeat' (first|apply Qb|(intro h;try exact cDd)|exact cSd|apply qb []|refine exr ?_|refine qf ?_)
   all_goals first|assumption|rfl
theorem zhb(xs:List qa)(st:List AObj)(hl:xs.length<1000000)(hx:∀x∈xs,x.length<1000000):qm E 105 [qao xs,qsn] st λr st'=>r=Bv (xs.any λs=> !y8 s)∧st'=st:=by
 refine ja [.a (qao xs),.a qsn] (qw _) Tryz.func105 rfl rfl (λ_=>rfl) rfl λS0=>?_;have h1:=λst=>zhs xs st hl hx;have h2:=qzq (λs=> !y8 s) xs 0;generalize fstG (λs=> !y8 s) 0 xs=n at *
 cases hb:(xs.any λs=> !y8 s)with
 |true=>
  have h3:=h2.2 hb;apply qd [];repeat' (first|apply Qb|(intro h;try exact cDd)|exact⟨Tryz.call139⟩|refine cpe h1 ?_|exact cSd|apply qb []|refine exr ?_|refine qf ?_)
  all_goals first|assumption|rfl|(simp;omega)|omega
 |false=>
  have h3:¬0<=n:=λh=>by rw[h2.1 h]at hb;cases hb
  apply qd [];repeat' (first|apply Qb|(intro h;try exact cDd)|exact⟨Tryz.call139⟩|refine cpe h1 ?_|exact cSd|apply qb []|refine exr ?_|refine qf ?_)
  all_goals first|assumption|rfl|(simp;omega)|omega
theorem q36(d:qc)(os:List Nat)(n:Int)(h0:0<=n)(hn:n<1000000000000)(hd:d.Bd 1000000):qz E 71 [.bx 0 0,.i n] 5 (hpF (pwrH d os)) ⟨.i (d.spend n).1,q8 (pwrH d os),pwrH (d.spend n).2 os++q9 (pwrH d os),5⟩:=by
 have u0:=hd.u0;have u1:=hd.u1;have l0:=hd.l0;have l1:=hd.l1;clear hd;obtain⟨u,l,a,g,room,files,sure,waits,acts⟩:=d;simp only at u0 u1 l0 l1
 cases a with
 |true=>
  by_cases h:l<n
  .have e:qc.spend ⟨u,l,true,g,room,files,sure,waits,acts⟩ n=(l,⟨u+l,l-l,true,true,room,files,sure,waits,acts⟩):=by simp[qc.spend,h]
   rw[e];refine je [.bx 0 0,.i n] (pwrF u l true g room os sure waits acts) 5 (.i l) (pwrF (u+l) (l-l) true true room os sure waits acts) 5 Tryz.func71 rfl rfl rfl rfl λS F ρ=>?_;apply qd [];repeat' (first|apply Qb|(intro h;try exact cDd)|exact cSd|apply qb []|refine exr ?_|refine qf ?_)
   all_goals first|rfl|omega|assumption|(simp;done)
  .have e:qc.spend ⟨u,l,true,g,room,files,sure,waits,acts⟩ n=(n,⟨u+n,l-n,true,g,room,files,sure,waits,acts⟩):=by simp[qc.spend,h]
   rw[e];refine je [.bx 0 0,.i n] (pwrF u l true g room os sure waits acts) 5 (.i n) (pwrF (u+n) (l-n) true g room os sure waits acts) 5 Tryz.func71 rfl rfl rfl rfl λS F ρ=>?_;apply qd [];repeat' (first|apply Qb|(intro h;try exact cDd)|exact cSd|apply qb []|refine exr ?_|refine qf ?_)
   all_goals first|rfl|omega|assumption|(simp;done)
 |false=>
  have e:qc.spend ⟨u,l,false,g,room,files,sure,waits,acts⟩ n=(n,⟨u+n,l,false,g,room,files,sure,waits,acts⟩):=by simp[qc.spend]
  rw[e];refine je [.bx 0 0,.i n] (pwrF u l false g room os sure waits acts) 5 (.i n) (pwrF (u+n) l false g room os sure waits acts) 5 Tryz.func71 rfl rfl rfl rfl λS F ρ=>?_;apply qd [];repeat' (first|apply Qb|(intro h;try exact cDd)|exact cSd|apply qb []|refine exr ?_|refine qf ?_)
  all_goals first|rfl|omega|assumption|(simp;done)
theorem qo0(d:qc)(os:List Nat)(hd:d.Bd 1000000):qz E 69 [.bx 0 0] 5 (hpF (pwrH d os)) ⟨.a (errA (if(d.spend 1).1<1 then .num 3 else .no)),q8 (pwrH d os),pwrH (d.spend 1).2 os++q9 (pwrH d os),5⟩:=by
 have h1:=q36 d os 1 Om Om hd;refine je [.bx 0 0] (pwrH d os) 5 _ (pwrH (d.spend 1).2 os) 5 Tryz.func69 rfl rfl rfl rfl λS F ρ=>?_;generalize d.spend 1=p at *;obtain⟨m,d2⟩:=p;by_cases h:m<1
 .rw[if_pos h]
  apply qd [];repeat' (first|apply Qb|(intro h;try exact cDd)|exact⟨Tryz.call71⟩|(refine qx h1 ?_)|exact cSd|apply qb []|refine exr ?_|refine qf ?_)
  all_goals first|rfl|omega|assumption|(simp;done)
 .rw[if_neg h]
  apply qd [];repeat' (first|apply Qb|(intro h;try exact cDd)|exact⟨Tryz.call71⟩|(refine qx h1 ?_)|exact cSd|apply qb []|refine exr ?_|refine qf ?_)
  all_goals first|rfl|omega|assumption|(simp;done)
@[reducible] def didH (d : qc) (os : List Nat) (a : ActV) : List (Nat × Option SR) :=
  [(0,some (.cells 91 [.i d.units,.i d.left,.b d.armed,.b d.gone,.i d.room,.tp 1,.tp 2,.tp 3,.tp 5])),
   (1,some (.tip 1 94 (qde os))),
   (2,some (.obj (mapP (d.sure.map (kvM keyS))))),
   (3,some (.tip 3 111 (d.waits.map qaa))),
   (5,some (.tip 5 67 ((d.acts++[a]).map actA)))]
theorem qpf(d:qc)(os:List Nat)(a:ActV)(hd:d.acts.length<=1000000):qz E 70 [.bx 0 0,.ag [.i a.kind,.s a.name,.s a.other,.s a.bytes,.i a.pos]] 5 (hpF (pwrH d os)) ⟨.a (.tu []),q8 (pwrH d os),didH d os a++q9 (pwrH d os),6⟩:=by
 refine je [.bx 0 0,.ag [.i a.kind,.s a.name,.s a.other,.s a.bytes,.i a.pos]] (pwrH d os) 5 _ (didH d os a) 6 Tryz.func70 rfl rfl rfl rfl λS F ρ=>?_;have bf:(d.acts.map actA).length=d.acts.length:=Sx
 have hms:(d.acts++[a]).map actA=d.acts.map actA++[actA a]:=Sx
 apply qd [];repeat' (first|apply Qb|(intro h;try exact cDd)|exact cSd|apply qb []|refine exr ?_|refine qf ?_)
 all_goals first|rfl|(rw[hms];done)|omega|assumption|(simp;done)
theorem q29(d:qc)(os:List Nat)(xs:List qa)(hl:xs.length<1000000)(hx:∀x∈xs,x.length<1000000):qz E 73 [.bx 0 0,.a (qao xs)] 5 (hpF (pwrH d os)) ⟨.a (errA (d.asked xs)),q8 (pwrH d os),pwrH d os++q9 (pwrH d os),5⟩:=by
 have h1:=λst=>zhb xs st hl hx;obtain⟨u,l,a,g,room,files,sure,waits,acts⟩:=d
 cases hb:(xs.any λs=> !y8 s)with
 |true=>
  have e:qc.asked ⟨u,l,a,g,room,files,sure,waits,acts⟩ xs=.num 1:=by unfold qc.asked;rw[if_pos hb]
  rw[hb]at h1;rw[e];refine je [.bx 0 0,.a (qao xs)] (pwrF u l a g room os sure waits acts) 5 _ (pwrF u l a g room os sure waits acts) 5 Tryz.func73 rfl rfl rfl rfl λS F ρ=>?_;apply qd [];repeat' (first|apply Qb|(intro h;try exact cDd)|exact⟨Tryz.call105⟩|refine cpe h1 ?_|exact cSd|apply qb []|refine exr ?_|refine qf ?_)
  all_goals first|rfl|assumption|(simp;done)
 |false=>
  rw[hb]at h1
  cases g with
  |true=>
   have e:qc.asked ⟨u,l,a,true,room,files,sure,waits,acts⟩ xs=.num 3:=by unfold qc.asked;rw[if_neg (by rw[hb];simp)];rfl
   rw[e];refine je [.bx 0 0,.a (qao xs)] (pwrF u l a true room os sure waits acts) 5 _ (pwrF u l a true room os sure waits acts) 5 Tryz.func73 rfl rfl rfl rfl λS F ρ=>?_;apply qd [];repeat' (first|apply Qb|(intro h;try exact cDd)|exact⟨Tryz.call105⟩|refine cpe h1 ?_|exact cSd|apply qb []|refine exr ?_|refine qf ?_)
   all_goals first|rfl|assumption|(simp;done)
  |false=>
   have e:qc.asked ⟨u,l,a,false,room,files,sure,waits,acts⟩ xs=.no:=by unfold qc.asked;rw[if_neg (by rw[hb];simp)];rfl
   rw[e];refine je [.bx 0 0,.a (qao xs)] (pwrF u l a false room os sure waits acts) 5 _ (pwrF u l a false room os sure waits acts) 5 Tryz.func73 rfl rfl rfl rfl λS F ρ=>?_;apply qd [];repeat' (first|apply Qb|(intro h;try exact cDd)|exact⟨Tryz.call105⟩|refine cpe h1 ?_|exact cSd|apply qb []|refine exr ?_|refine qf ?_)
   all_goals first|rfl|assumption|(simp;done)
theorem q3e(st:List AObj)(o clock:Nat)(es:List MapEntry)(ho:st[o]?=some (.map es clock)):qm E 64 [.mp o] st λr st'=>r=.mp st.length∧st'=st++[.map es clock]:=
 q1p (λb es clock w hb=>AnyW.maps_Clone Tryz.clone64 b es clock w hb) ho
@[reducible] def nmH (L : List (qa × Int)) (ms : List xi) : List (Nat × Option SR) :=
 [(0,some (.obj (mapP (L.map (kvM keyS))))),(1,some (.tip 3 111 (ms.map qaa)))]
@[reducible] def nmH2 (L : List (qa × Int)) (ms : List xi) : List (Nat × Option SR) :=
 [(0,some (.obj (mapP (L.map (kvM keyS))))),(1,some (.tip 3 111 (ms.map qaa))),(2,some (.obj (mapP ((dirM L ms).map (kvM keyS)))))]
theorem q81(L:List (qa×Int))(ms:List xi)(hl:ms.length<1000000000):qz E 44 [.tp 0,.tp 1] 2 (hpF (nmH L ms)) ⟨.tp 2,q8 (nmH L ms),nmH2 L ms++q9 (nmH L ms),3⟩:=by
 refine je [.tp 0,.tp 1] (nmH L ms) 2 (.tp 2) (nmH2 L ms) 3 Tryz.func44 rfl rfl rfl rfl λS F ρ=>?_;have bf:(ms.map qaa).length=ms.length:=Sx
 apply qd [];repeat' (first|apply Qb|(intro h;try exact cDd)|exact⟨Tryz.call64⟩|(refine Qg _ ⟨qss rfl rfl λst o clock es ho=>q3e st o clock es ho,?_⟩)|exact cSd|apply qb []|refine exr ?_|refine qf ?_)
 refine xx (X:=Nat) (λk=>⟨[(5,.tp 2),(10,.tp 1),(11,.i ms.length),(12,.i k)],nmH L ms++[(2,some (.obj (mapP ((dirM L (ms.take k)).map (kvM keyS)))))],3⟩) (λk=>k<=ms.length) (λk=>ms.length-k) 0 Om ?_ ?_
 .skip
  repeat' (first|apply Qb|(intro h;try exact cDd)|exact cSd|apply qb []|refine exr ?_|refine qf ?_)
  all_goals first|assumption|rfl|(simp[dirM];done)
 .rintro k hk
  by_cases r8:k<ms.length
  .have hx:ms[k]?=some ms[k]:=Qu r8
   have s7:(ms.map qaa)[k]?=some (qaa ms[k]):=by rw[Qd,hx];rfl
   have d9:dirM L (ms.take (k+1))=qcs (dirM L (ms.take k)) ms[k]:=by
    unfold dirM;rw[List.take_add_one,hx,List.foldl_append];rfl
   generalize dirM L (ms.take k)=D at *;generalize ms[k]=m at hx s7 d9;unfold qcs at d9;by_cases hp:m.put=[]
   .rw[if_pos hp]at d9
    apply qd [];repeat' (first|apply Qb|(intro h;try exact cDd)|(refine Qg (k) ⟨Om,_,s7,?_⟩)|(refine qmr qhx rfl rfl rfl (λ_=>rfl) rfl rfl rfl ?_)|exact absurd hp (by assumption)|exact absurd (by assumption) hp|(refine Qg (k+1) ⟨Om,Om,?_⟩)|exact cSd|apply qb []|refine exr ?_|refine qf ?_)
    all_goals first|assumption|rfl|(rw[d9];assumption)|(simp;done)
   .rw[if_neg hp]at d9
    apply qd [];repeat' (first|apply Qb|(intro h;try exact cDd)|(refine Qg (k) ⟨Om,_,s7,?_⟩)|(refine qmr qhx rfl rfl rfl (λ_=>rfl) rfl rfl rfl ?_)|(refine qz5 qhx rfl rfl rfl (λ_=>rfl) rfl (λ_=>rfl) rfl rfl rfl ?_)|exact absurd hp (by assumption)|exact absurd (by assumption) hp|(refine Qg (k+1) ⟨Om,Om,?_⟩)|exact cSd|apply qb []|refine exr ?_|refine qf ?_)
    all_goals first|assumption|rfl|(rw[d9];assumption)|(simp;done)
  .have r8:k=ms.length:=by omega
   subst r8;rw[Xs];apply qd [];repeat' (first|apply Qb|(intro h;try exact cDd)|exact cSd|apply qb []|refine exr ?_|refine qf ?_)
   all_goals first|assumption|rfl|(simp;done)
@[reducible] def dirH (d : qc) (os : List Nat) : List (Nat × Option SR) :=
  [(0,some (.cells 91 [.i d.units,.i d.left,.b d.armed,.b d.gone,.i d.room,.tp 1,.tp 2,.tp 3,.tp 4])),
   (1,some (.tip 1 94 (qde os))),
   (2,some (.obj (mapP (d.sure.map (kvM keyS))))),
   (3,some (.tip 3 111 (d.waits.map qaa))),
   (4,some (.tip 5 67 (d.acts.map actA))),
   (5,some (.obj (mapP (d.dir.map (kvM keyS)))))]
theorem qsz(d:qc)(os:List Nat)(hd:d.Bd 1000000):qz E 62 [.bx 0 0] 5 (hpF (pwrH d os)) ⟨.tp 5,q8 (pwrH d os),dirH d os++q9 (pwrH d os),6⟩:=by
 have h1:=q81 d.sure d.waits (by have:=hd.wl;omega);refine je [.bx 0 0] (pwrH d os) 5 (.tp 5) (dirH d os) 6 Tryz.func62 rfl rfl rfl rfl λS F ρ=>?_;apply qd [];repeat' (first|apply Qb|(intro h;try exact cDd)|exact⟨Tryz.call44⟩|(refine qx h1 ?_)|exact cSd|apply qb []|refine exr ?_|refine qf ?_)
 all_goals first|assumption|rfl|(simp;done)
@[reducible] def qbi (sure : qa) (ws : List kz) : List (Nat × Option SR) :=
 [(0,some (.cells 98 [.s sure,.tp 1])),(1,some (.tip 3 114 (ws.map vm)))]
theorem zdv(w:kz)(st:List AObj)(hl:w.text.length<=1000000000):qm E 88 [vm w] st λr st'=>r=Iv w.units∧st'=st:=by
 obtain⟨t,p,c⟩:=w
 cases c with
 |true=>
  refine ja [.ag [.s t,.i p,.tt]] (qw _) Tryz.func88 rfl rfl (λ_=>rfl) rfl λS0=>?_;apply qd [1]
  repeat' (first|apply Qb|(intro h;try exact cDd)|exact cSd|apply qb [1]|refine exr ?_|refine qf ?_)
 |false=>
  refine ja [.ag [.s t,.i p,.ff]] (qw _) Tryz.func88 rfl rfl (λ_=>rfl) rfl λS0=>?_;apply qd [1];repeat' (first|apply Qb|(intro h;try exact cDd)|exact cSd|apply qb [1]|refine exr ?_|refine qf ?_)
theorem zgy(w:kz)(s:qa)(n:Int)(st:List AObj)(h0:0<=n)(hn:w.cut=false->n<=w.text.length)(hp:0<=w.pos)(hl:s.length+w.text.length<=1000000000):qm E 89 [vm w,Sv s,Iv n] st λr st'=>r=Sv (w.onto s n)∧st'=st:=by
 obtain⟨t,p,c⟩:=w;simp only at hn hp hl
 cases c with
 |true=>
  show qm E _ _ _ λr st'=>r=Sv (s.take (min p (s.length:Int)).toNat)∧st'=st
  have hm1:0<=min p (s.length:Int):=Om
  have rp:min p (s.length:Int)<=s.length:=Om
  refine ja [.ag [.s t,.i p,.tt],.s s,.i n] (qw _) Tryz.func89 rfl rfl (λ_=>rfl) rfl λS0=>?_;apply qd [3];repeat' (first|apply Qb|(intro h;try exact cDd)|(refine Qg (min p (s.length:Int)).toNat ⟨Om,?_⟩)|exact cSd|apply qb [3]|refine exr ?_|refine qf ?_)
  all_goals first|assumption|rfl|omega|(simp;done)
 |false=>
  have hn:=hn rfl
  show qm E _ _ _ λr st'=>r=Sv (s++t.take n.toNat)∧st'=st
  refine ja [.ag [.s t,.i p,.ff],.s s,.i n] (qw _) Tryz.func89 rfl rfl (λ_=>rfl) rfl λS0=>?_;apply qd [3];repeat' (first|apply Qb|(intro h;try exact cDd)|(refine Qg n.toNat ⟨Om,?_⟩)|exact cSd|apply qb [3]|refine exr ?_|refine qf ?_)
  all_goals first|assumption|rfl|omega|(simp;omega)|(simp;done)
theorem zdt(w:kz):0<=w.units∧(w.cut=false->w.units=w.text.length):=by
 unfold kz.units
 cases w.cut<;>simp
theorem zf4(w:kz)(s:qa)(n:Int):(w.onto s n).length<=s.length+w.text.length:=by
 unfold kz.onto;split
 .simp;omega
 .simp;omega
theorem qn8(sure:qa)(ws:List kz)(u:Int)(hu:u<9223372036854775808)(hu0: -2<u)(hb:zj.Bd 1000000 ⟨sure,ws⟩):qz E 45 [.bx 0 0,.i u] 2 (hpF (qbi sure ws)) ⟨.s (km sure ws u),q8 (qbi sure ws),qbi sure ws++q9 (qbi sure ws),2⟩:=by
 have b1:=hb.wl;have b2:=hb.tl;have b3:=hb.cp;simp only at b1 b2 b3;refine je [.bx 0 0,.i u] (qbi sure ws) 2 _ (qbi sure ws) 2 Tryz.func45 rfl rfl rfl rfl λS F ρ=>?_;have bf:(ws.map vm).length=ws.length:=Sx
 apply qd [];repeat' (first|apply Qb|(intro h;try exact cDd)|exact cSd|apply qb []|refine exr ?_|refine qf ?_)
 refine xx (X:=Nat×qa×Int) (λ(k,out,v)=>⟨[(1,.i v),(5,.s out),(16,.tp 1),(17,.i ws.length),(18,.i k)],qbi sure ws,2⟩) (λ(k,out,v)=>k<=ws.length∧v<9223372036854775808∧-2<v∧out.length+qbq (ws.drop k)<=1000000∧km out (ws.drop k) v=km sure ws u) (λ(k,_,_)=>ws.length-k) (0,sure,u) ⟨Om,hu,hu0,by simpa using b2,Sx⟩ ?_ ?_
 .skip
  repeat' (first|apply Qb|(intro h;try exact cDd)|exact cSd|apply qb []|refine exr ?_|refine qf ?_)
  all_goals first|assumption|rfl|(simp;done)
 .rintro⟨k,out,v⟩ ⟨hk,hv,hv0,b9,a8⟩
  by_cases r8:k<ws.length
  .have hx:ws[k]?=some ws[k]:=Qu r8
   have s7:(ws.map vm)[k]?=some (vm ws[k]):=by rw[Qd,hx];rfl
   have hcp:=b3 _ (Zu r8);rw[Qz r8]at b9 a8;generalize ws[k]=w at hx s7 hcp b9 a8;have hlen2:out.length+(w.text.length+qbq (ws.drop (k+1)))<=1000000:=by simpa[qbq]using b9
   rw[km]at a8;have sm:=λst=>zdv w st Om;obtain⟨u0,u1⟩:=zdt w;have pm:=λn st h1 h2=>zgy w out n st h1 h2 hcp Om;have sj:=zf4 w out;generalize w.units=U at *;by_cases h0:0<=v
   .rw[if_pos h0,if_pos h0]at a8
    have hmn:min U v<=U∧min U v<=v∧0<=min U v:=Om
    by_cases hn:0<min U v
    .rw[if_pos hn]at a8
     have pm:=λst=>pm (min U v) st Om (λh=>by have:=u1 h;omega);have sj:=sj (min U v);generalize w.onto out (min U v)=out' at *;apply qd [];repeat' (first|apply Qb|(intro h;try exact cDd)|(refine Qg (k) ⟨Om,_,s7,?_⟩)|exact⟨Tryz.call88⟩|refine cpe sm ?_|exact⟨Tryz.call89⟩|refine cpe pm ?_|(refine Qg (k+1,out',v-min U v) ⟨⟨Om,Om,Om,Om,a8⟩,by simp only;omega,?_⟩)|exact cSd|apply qb []|refine exr ?_|refine qf ?_)
     all_goals first|assumption|rfl|omega|(simp;done)
    .rw[if_neg hn]at a8
     apply qd [];repeat' (first|apply Qb|(intro h;try exact cDd)|(refine Qg (k) ⟨Om,_,s7,?_⟩)|exact⟨Tryz.call88⟩|refine cpe sm ?_|(refine Qg (k+1,out,v-min U v) ⟨⟨Om,Om,Om,Om,a8⟩,by simp only;omega,?_⟩)|exact cSd|apply qb []|refine exr ?_|refine qf ?_)
     all_goals first|assumption|rfl|omega|(simp;done)
   .rw[if_neg h0,if_neg h0]at a8
    by_cases hn:0<U
    .rw[if_pos hn]at a8
     have pm:=λst=>pm U st Om (λh=>by have:=u1 h;omega);have sj:=sj U;generalize w.onto out U=out' at *;apply qd [];repeat' (first|apply Qb|(intro h;try exact cDd)|(refine Qg (k) ⟨Om,_,s7,?_⟩)|exact⟨Tryz.call88⟩|refine cpe sm ?_|exact⟨Tryz.call89⟩|refine cpe pm ?_|(refine Qg (k+1,out',v) ⟨⟨Om,Om,Om,Om,a8⟩,by simp only;omega,?_⟩)|exact cSd|apply qb []|refine exr ?_|refine qf ?_)
     all_goals first|assumption|rfl|omega|(simp;done)
    .rw[if_neg hn]at a8
     apply qd [];repeat' (first|apply Qb|(intro h;try exact cDd)|(refine Qg (k) ⟨Om,_,s7,?_⟩)|exact⟨Tryz.call88⟩|refine cpe sm ?_|(refine Qg (k+1,out,v) ⟨⟨Om,Om,Om,Om,a8⟩,by simp only;omega,?_⟩)|exact cSd|apply qb []|refine exr ?_|refine qf ?_)
     all_goals first|assumption|rfl|omega|(simp;done)
  .have r8:k=ws.length:=by omega
   subst r8;rw[Xt,km]at a8;rw[<-a8];apply qd [];repeat' (first|apply Qb|(intro h;try exact cDd)|exact cSd|apply qb []|refine exr ?_|refine qf ?_)
   all_goals first|assumption|rfl|(simp;done)
theorem qpi(sure:qa)(ws:List kz)(hb:zj.Bd 1000000 ⟨sure,ws⟩):qz E 72 [.bx 0 0] 2 (hpF (qbi sure ws)) ⟨.s (km sure ws (-1)),q8 (qbi sure ws),qbi sure ws++q9 (qbi sure ws),2⟩:=by
 have h1:=qn8 sure ws (-1) Om Om hb;refine je [.bx 0 0] (qbi sure ws) 2 _ (qbi sure ws) 2 Tryz.func72 rfl rfl rfl rfl λS F ρ=>?_;apply qd [];repeat' (first|apply Qb|(intro h;try exact cDd)|exact⟨Tryz.call45⟩|(refine qx h1 ?_)|exact cSd|apply qb []|refine exr ?_|refine qf ?_)
 all_goals first|assumption|rfl|(simp;done)
@[reducible] def zh3 : AV := .v (.pointer none)
theorem qyn(d:qc)(os:List Nat)(n:qa)(hn:n.length<1000000):qz E 73 [.bx 0 0,.a (.sl 1 [Sv n] none)] 5 (hpF (pwrH d os)) ⟨.a (errA (d.asked [n])),q8 (pwrH d os),pwrH d os++q9 (pwrH d os),5⟩:=
 q29 d os [n] Sx λx hx=>by rw[Qc.1 hx];exact hn
theorem q1z(d:qc)(xs:List qa):d.asked xs=.no∨∃n,d.asked xs=.num n:=by
 unfold qc.asked;split
 .exact .inr ⟨_,rfl⟩
 .split
  .exact .inr ⟨_,rfl⟩
  .exact .inl rfl
theorem qii(d:qc)(n:qa):((d.file n).1=.no∧d.asked [n]=.no∧hasM n d.dir=true∧(d.file n).2=getM n d.dir)∨(d.asked [n]=.no∧hasM n d.dir=false∧(d.file n).1=.num 7)∨∃k,k≠7∧d.asked [n]=.num k∧(d.file n).1=.num k:=by
 have h7:∀k,d.asked [n]=.num k->k≠7:=λk h=>by
  unfold qc.asked at h;split at h
  .simp only[ErrV.num.injEq]at h;omega
  .split at h
   .simp only[ErrV.num.injEq]at h;omega
   .cases h
 unfold qc.file;rcases q1z d [n]with h|⟨k,h⟩
 .rw[if_pos h]
  cases hh:hasM n d.dir with
  |true=>exact .inl ⟨rfl,h,rfl,rfl⟩
  |false=>exact .inr (.inl ⟨h,rfl,rfl⟩)
 .rw[if_neg (by rw[h];simp)]
  exact .inr (.inr ⟨k,h7 k h,h,h⟩)
theorem xl(d:qc)(os:List Nat)(n:qa)(o:Nat)(hd:d.Bd 1000000)(hn:n.length<1000000)(hf:(d.file n).1=.no)(ho:os[(d.file n).2.toNat]?=some o):qz E 68 [.bx 0 0,.s n] 5 (hpF (pwrH d os)) ⟨.tu [.a (.bx o 0 0),.a (errA .no)],q8 (pwrH d os),pwrH d os++q9 (pwrH d os),5⟩:=by
 have h1:=qyn d os n hn;have h2:=qsz d os hd;obtain⟨_,_,h4⟩:=hd.dir1;rcases qii d n with⟨_,e1,e2,e3⟩|⟨e1,e2,e3⟩|⟨k,_,e2,e3⟩
 .rw[e3]at ho
  rw[e1]at h1;have h5:=q3r h4 e2;have hL:(qde os).length=os.length:=Sx
  have e8:=lt_of_getElem? ho;obtain⟨j,hj⟩:∃j:Nat,getM n d.dir=(j:Int):=⟨(getM n d.dir).toNat,Om⟩;rw[hj,Zj]at ho;rw[hj,Zj]at e8;have hm:(qde os)[j]?=some (.bx o 0 0):=by rw[Qd,ho];rfl
  refine je [.bx 0 0,.s n] (pwrH d os) 5 _ (pwrH d os) 5 Tryz.func68 rfl rfl rfl rfl λS F ρ=>?_;have e2:(d.dir.any λq=>decide (q.1=n))=true:=e2;apply qd [];repeat' (first|apply Qb|(intro h;try exact cDd)|exact⟨Tryz.call73⟩|(refine qx h1 ?_)|exact⟨Tryz.call62⟩|(refine qx h2 ?_)|(refine qwp (w:=.tt) qhx rfl rfl rfl (λ_=>rfl) rfl rfl rfl rfl hj (λ_=>congrArg Bv e2.symm) ?_)|(refine Qg (j) ⟨Om,_,hm,?_⟩)|exact cSd|apply qb []|refine exr ?_|refine qf ?_)
  all_goals first|rfl|assumption|omega|(simp;done)
 .rw[e3]at hf;cases hf
 .rw[e3]at hf;cases hf
theorem qe6(d:qc)(os:List Nat)(n:qa)(hd:d.Bd 1000000)(hn:n.length<1000000)(hf:(d.file n).1≠.no):qz E 68 [.bx 0 0,.s n] 5 (hpF (pwrH d os)) ⟨.tu [.a zh3,.a (errA (d.file n).1)],q8 (pwrH d os),pwrH d os++q9 (pwrH d os),5⟩:=by
 have h1:=qyn d os n hn;have h2:=qsz d os hd;rcases qii d n with⟨e0,_⟩|⟨e1,e2,e3⟩|⟨k,_,e2,e3⟩
 .exact absurd e0 hf
 .rw[e1]at h1
  rw[e3];refine je [.bx 0 0,.s n] (pwrH d os) 5 _ (pwrH d os) 5 Tryz.func68 rfl rfl rfl rfl λS F ρ=>?_;have e2:(d.dir.any λq=>decide (q.1=n))=false:=e2;apply qd [];repeat' (first|apply Qb|(intro h;try exact cDd)|exact⟨Tryz.call73⟩|(refine qx h1 ?_)|exact⟨Tryz.call62⟩|(refine qx h2 ?_)|(refine qwp (w:=.ff) qhx rfl rfl rfl (λ_=>rfl) rfl rfl rfl rfl rfl (λ_=>congrArg Bv e2.symm) ?_)|exact cSd|apply qb []|refine exr ?_|refine qf ?_)
  all_goals first|rfl|assumption|omega|(simp;done)
 .rw[e2]at h1
  rw[e3];refine je [.bx 0 0,.s n] (pwrH d os) 5 _ (pwrH d os) 5 Tryz.func68 rfl rfl rfl rfl λS F ρ=>?_;apply qd [];repeat' (first|apply Qb|(intro h;try exact cDd)|exact⟨Tryz.call73⟩|(refine qx h1 ?_)|exact cSd|apply qb []|refine exr ?_|refine qf ?_)
  all_goals first|rfl|assumption|omega|(simp;done)
end Go.Proofs.YthnbabbhpeebbaaGreatDoor
