/- Contracts and plain facts that the closing text leans on (part 10). No condition of their own beyond those that each states. -/
import Derived.Test.YtihlchbgjdkmpaaGreatDoorK9
set_option maxRecDepth 100000
set_option linter.unusedVariables false
set_option linter.unusedSimpArgs false
open And renaming intro→Qa
open Bool renaming and_eq_true→Qt,false_or→Xm
open Exists renaming intro→Qc
open Int renaming toNat_natCast→Zd,le_refl→Zh
open List renaming getElem?_eq_getElem→Qb,mem_cons→Qe,getElem?_cons_succ→Qf,length_append→Qg,length_cons→Qh,getElem?_map→Qi,not_mem_nil→Qk,mem_append→Ql,getElem?_cons_zero→Qm,getElem_mem→Qn,mem_map→Qo,take_append_drop→Qp,take_add_one→Qq,getElem?_eq_some_iff→Qr,take_of_length_le→Qu,length_nil→Qv,mem_of_mem_take→Qw,drop_eq_getElem_cons→Qx,getElem?_append_left→Qy,mem_of_getElem?→Qz,take_length→Za,cons_append→Zb,append_nil→Zc,dropLast_concat_getLast→Zf,mem_of_mem_drop→Zg,mem_singleton→Zi,flatMap_nil→Zl,eq_nil_or_concat→Zm,concat_eq_append→Zn,countP_le_length→Zo,mem_filter→Zp,mem_cons_of_mem→Zq,length_set→Zr,zipWith→Zs,length_reverse→Zt,any_cons→Zu,map_cons→Zv,nodup_append→Zw,mem_or_eq_of_mem_set→Zx,map_map→Zz,length_take→Xa,all_eq_true→Xb,filter_cons_of_pos→Xc,filter_cons_of_neg→Xd,nodup_cons→Xf,nil_append→Xg,drop_of_length_le→Xh,take_left→Xi,getElem?_eq_none→Xj,getElem?_set_ne→Xl,take_succ_cons→Xo,find?_eq_none→Xp,flatMap_cons→Xr,intercalate→Xt,length_map→Xu,nodup_nil→Xw,range→Xy
open List.Nodup renaming sublist→Yb
open List.Sublist renaming append→Xz,filter→Ya,refl→Yc,map→Yd
open List.cons renaming injEq→Xv
open Nat renaming le_refl→Qs,le_of_ble_eq_true→Ze,zero_add→Zk,beq→Zy,eq_of_beq_eq_true→Xk,le_trans→Xq,ble→Ye
open Option renaming map_some→Xe
open Option.some renaming injEq→Qd
open Prod renaming snd→Zj,fst→Xs
open Prod.mk renaming injEq→Qj
namespace Go.Pl
open Go Go.Proofs Go.Proofs.YtihlchbgjdkmpaaGreatDoor
theorem qxi(x:zh)(r:List zh):wi (x::r)=x.raw++wi r:=by simp[wi]
theorem zjv{its:List zh}{x:zh}(h:x∈its):x.raw.length<=(wi its).length:=by
 induction its with
 |nil=>simp at h
 |cons y r ih=>
  rw[qxi,Qg];rcases Qe.1 h with rfl|h
  .omega
  .have:=ih h
   omega
structure PR (m:Nat) (p:PSt):Prop where
 tot:(wi p.items).length+(zk p.block).length<=m
 fl:∀x∈p.items,x.fields.length<900000
theorem qqw{m:Nat}{p:PSt}(h:PR m p):PR m (ka p).2:=by
 unfold ka;split
 .exact h
 .split
  .exact h
  .split
   .exact h
   .exact⟨h.tot,h.fl⟩
theorem zei{m:Nat}{p:PSt}(h:PR m p)(hf:p.fields.length<900000):PR m (yy p):=by
 have ht:=h.tot;unfold yy;split
 .exact⟨by simp only[zk,Zl,Qv];omega,h.fl⟩
 .refine⟨?_,λx hx=>?_⟩
  .simp only[qg3,qg4,Qg]
   simp only[zk,Zl,Qv]at ht⊢;omega
  .simp only[Ql,Zi]at hx
   rcases hx with hx|rfl
   .exact h.fl x hx
   .exact hf
theorem qyt{m n:Nat}{p:PSt}(h:PR m p)(hB:PB n p)(hs:n+1<900000):PR m (endP p).2:=by
 unfold endP;split
 .exact h
 .have:=(qjj hB hs).fields
  exact zei (qqw h) Om
theorem zdv{m n:Nat}{p:PSt}{no:Int}{text:qc}{ended:Bool}{kind:Int}(h:PR m p)(hB:PB n p)(hs:n+1<900000):PR m (j6 p no text ended kind).2:=by
 unfold j6;split
 .split
  .exact h
  .split
   .exact⟨h.tot,h.fl⟩
   .exact qqw ⟨h.tot,h.fl⟩
 .split
  .exact qyt h hB hs
  .exact qqw h
theorem qan(a b:List qc):zk (a++b)=zk a++zk b:=by simp[zk]
theorem zkn{m n:Nat}{p:PSt}{no:Int}{text:qc}{ended:Bool}(h:PR m p)(hB:PB n p)(hs:n+1<900000):PR (m+text.length+1) (xi p no text ended).2:=by
 have more:∀{q:PSt},PR m q->PR (m+text.length+1) q:=λh=>⟨by have:=h.tot;omega,h.fl⟩;have h2:PR m (j6 p no text ended (qy text)).2:=zdv h hB hs;have ht:=h2.tot;unfold xi;split
 .exact more h
 .split
  .exact more h
  .split
   .refine⟨?_,λx hx=>?_⟩
    .simp only[qg3,qg4,Qg,Qh,Qv]
     omega
    .simp only[Ql,Zi]at hx
     rcases hx with hx|rfl
     .exact h2.fl x hx
     .simp
   .split
    .refine⟨?_,h2.fl⟩
     simp only[vg,qan,Qg];simp only[zk,Xr,Zl,Qg,Qh,Qv]at ht⊢;omega
    .refine⟨?_,h2.fl⟩
     simp only[qan,Qg];simp only[zk,Xr,Zl,Qg,Qh,Qv]at ht⊢;omega
theorem zmy:∀(n:Nat)(rest:qc)(k m:Nat)(p:PSt),rest.length<=n->PB (4*k) p->PR m p->k+rest.length<=60000->PR (m+2*rest.length) (runL k (zp rest) p).2:=by
 intro n
 induction n with
 |zero=>
  intro rest k m p hr hB hR hk;obtain rfl:rest=[]:=List.eq_nil_of_length_eq_zero Om;rw[vu,runL]
  exact qyt hR hB Om
 |succ n ih=>
  intro rest k m p hr hB hR hk;by_cases b9:rest=[]
  .subst b9
   rw[vu,runL];exact qyt hR hB Om
  .have hu:=vk 10 rest
   have fj:=vl 10 rest;have hr0:0<rest.length:=List.length_pos_iff.2 b9;rw[wh b9];simp only[runL];have lz:=qu7 (no:=k) (text:=upto 10 rest) (ended:=decide (10∈rest)) hB Om Om;have ml:=zkn (no:=k) (text:=upto 10 rest) (ended:=decide (10∈rest)) hR hB Om;split
   .exact⟨by have:=hR.tot;simp only;omega,hR.fl⟩
   .have:=ih (past 10 rest) (k+1) _ _ Om lz ml Om
    exact⟨by have:=this.tot;omega,this.fl⟩
theorem zl8(text:qc):(wi (itsE text)).length<=120000∧∀x∈itsE text,x.fields.length<900000:=by
 unfold itsE;split
 .simp[wi]
 .have h:=zmy text.length text 0 0 p0 (Qs _) zcs ⟨by simp[p0,wi,zk],by simp[p0]⟩ Om
  unfold ji;split
  .simp[wi]
  .have:=h.tot
   exact⟨by simp only;omega,h.fl⟩
def LI(l:qu):Prop:=∀e∈l.ents,e.x.raw.length<=1000000∧e.x.fields.length<900000
theorem zfm:∀(its:List zh)(l:qu),LI l->(∀x∈its,x.raw.length<=1000000∧x.fields.length<900000)->LI (its.foldl x4 l)
 | [],l,h,_=>h
 |x::r,l,h,hx=>by
  rw[List.foldl_cons];refine zfm r _ ?_ λy hy=>hx y (by simp[hy]);have h1:=hx x Sx;unfold x4;split
  .intro e he
   simp only[Ql,Zi]at he;rcases he with he|rfl
   .exact h e he
   .exact h1
  .intro e he
   simp only[Ql,Zi]at he;rcases he with he|rfl
   .exact h e he
   .exact h1
theorem zof(text:qc):LI (ofF (itsE text)):=by
 obtain⟨h1,h2⟩:=zl8 text;refine zfm _ _ (by simp[LI]) λx hx=>⟨?_,h2 x hx⟩;have:=zjv hx;omega
theorem q1g(fs:List Fld):(yn fs).raw.length<=1000000∧(yn fs).fields.length<900000:=by
 unfold yn;split
 .rename_i h
  obtain⟨_,g1,g2⟩:=qcm h;have:=qgt fs g2;exact⟨by simp only;omega,by simp only;omega⟩
 .exact⟨Sx,Sx⟩
theorem zj6{l:qu}(h:LI l)(id:Int)(fs:List Fld):LI (xg l id fs).2:=by
 unfold xg;split
 .exact h
 .split
  .unfold qh0
   split
   .intro y hy
    rcases Zx hy with hy|rfl
    .exact h y hy
    .exact q1g fs
   .exact h
  .exact h
theorem zlt{l:qu}(h:LI l)(id:Int):LI (delF l id).2:=by
 unfold delF;split
 .exact h
 .intro y hy
  simp only[delL,Ql]at hy;rcases hy with hy|hy
  .exact h y (Qw hy)
  .exact h y (Zg hy)
theorem zl6{l:qu}(h:LI l)(id:Int)(fs:List Fld):LI (insF l id fs).2.2:=by
 unfold insF;split
 .exact h
 .split
  .split
   .exact h
   .intro y hy
    simp only[insL,Ql,Qe]at hy;rcases hy with hy|rfl|hy
    .exact h y (Qw hy)
    .exact q1g fs
    .exact h y (Zg hy)
  .exact h
theorem qvv:∀(its:List zh)(b:Bool),(∀x∈its,x.raw.length<=1000000)->(wi (vn b its)).length<=1000001*its.length
 | [],b,h=>by simp[vn,wi]
 |x::r,b,h=>by
  have ih:=qvv r (decide (x.kind≠1)) λy hy=>h y (by simp[hy]);have hx:=h x Sx;rw[vn,qg3,Qg];split
  .rw[qxi,qg4]
   simp only[Qg,Qh,Qv];omega
  .rw[qg4]
   simp only[Qh];omega
theorem q7c{n:Nat}{l:qu}(hB:LB n l)(h:LI l):(qsp l).length<=1000000000000:=by
 have h1:=qvv (jv l) false λx hx=>by
  obtain⟨e,he,rfl⟩:=Qo.1 hx;exact(h e he).1
 have h2:=hB.len;have h3:=hB.small;unfold qsp qb3;have:(jv l).length=l.ents.length:=by simp[jv]
 omega
end Go.Pl
namespace Go.Proofs.YtihlchbgjdkmpaaGreatDoor
open Go Go.Av Go.RowKit Go.Proofs Go.Pl
theorem zak{l:qu}(h:LI l)(x:qp):LI (oneF l x).2.2:=by
 unfold oneF;split
 .exact zj6 h _ _
 .split
  .exact zlt h _
  .exact zl6 h _ _
theorem q0g:∀(b:List qp)(k:Nat)(l:qu)(ids:List Int),LI l->LI (kg k b l ids).2.1
 | [],k,l,ids,h=>h
 |x::r,k,l,ids,h=>by
  unfold kg;split
  .exact q0g r (k+1) _ _ (zak h x)
  .exact h
theorem znu{l:qu}(h:LI l)(b:List qp):LI (doF l b).2.1:=by
 unfold doF;split
 .exact q0g b 0 l [] h
 .exact h
theorem q96{n:Nat}{l:qu}(hB:LB n l)(h:LI l):ItsB (jv l):=by
 have h1:=hB.len;have h2:=hB.small;refine⟨by simp[jv];omega,λx hx=>?_⟩;obtain⟨e,he,rfl⟩:=Qo.1 hx;have:=(h e he).2;omega
theorem qs8:∀(b:List qp)(k:Nat)(l:qu)(ids:List Int),(kg k b l ids).1≠.no->(kg k b l ids).1.code≠0
 | [],k,l,ids,h=>by simp[kg]at h
 |x::r,k,l,ids,h=>by
  unfold kg at h⊢;split
  .rename_i he
   rw[if_pos he]at h;exact qs8 r _ _ _ h
  .rename_i he
   exact qrf he
theorem zic{l:qu}{b:List qp}(h:(doF l b).1≠.no):(doF l b).1.code≠0:=by
 unfold doF at h⊢;split
 .rename_i he
  rw[if_pos he]at h;exact qs8 _ _ _ _ h
 .rename_i he
  exactλh'=>he ((qep b).1 h')
def lR(b:j5)(n:Nat):qu:=if jw b.base=.no then(z8 b.base (b.batches.take n)).2.l else⟨[],0,0⟩
def gR(b:j5)(n:Nat):List (List Int):=if(z8 b.base (b.batches.take n)).1=.no then(z8 b.base (b.batches.take n)).2.given else []
theorem q1h{base:qc}:∀(bs:List (List qp))(k:Nat)(r:RunV),k+bs.length<=14000->LB (300000+40*k) r.l->LM r.l->LI r.l->LB 860000 (z0 bs r).2.l∧LM (z0 bs r).2.l∧LI (z0 bs r).2.l
 | [],k,r,hk,h1,h2,h3=>⟨qgx h1 (by simp at hk;omega) Om,h2,h3⟩
 |b::q,k,r,hk,h1,h2,h3=>by
  simp only[Qh]at hk;unfold z0;split
  .exact q1h (base:=base) q (k+1) _ Om (qgx (qwc h1 Om b) Om Om) (zep h2 h1 Om b) (znu h3 b)
  .exact⟨qgx h1 Om Om,h2,h3⟩
theorem quy(base:qc)(bs:List (List qp))(h:bs.length<=14000):LB 860000 (z8 base bs).2.l∧LM (z8 base bs).2.l∧LI (z8 base bs).2.l:=by
 unfold z8;split
 .exact q1h (base:=base) bs 0 _ Om (q5w base) (zfk _) (zof base)
 .exact⟨⟨Om,by simp[ofF],by simp[ofF],by simp[ofF],by simp[ofF],by simp[ofF]⟩,by simp[ofF,LM,cntF],by simp[ofF,LI]⟩
theorem qp4(b:j5)(n:Nat)(st:List AObj)(hB:BkB b)(hn:n<=b.batches.length):qr E 44 [qbd b,Iv n] st λr st'=>r=.tu [xb (lR b n),qla (gR b n),Iv (z8 b.base (b.batches.take n)).1.pos,Iv (z8 b.base (b.batches.take n)).1.code]∧st'=st:=by
 refine zj [.a (qbd b),.i n] (qlh (y9 _) (qiy _) (qt _) (qt _)) Tryz.func44 rfl rfl (λ_=>rfl) rfl λS0=>?_;have fg:=λst=>zgd b.base st hB.base;have rf:=q5w b.base;have hlm:=zfk (itsE b.base);have dn:=hB.len;have sc:(b.batches.take n).length=n:=So
 have hbb:∀x∈b.batches.take n,BB x∧x.length<=5000:=λx hx=>hB.bat x (Qw hx)
 have hix:∀k,k<n->∃x,(b.batches.take n)[k]?=some x∧(b.batches.map zr)[k]?=some (zr x)∧(b.batches.take n).drop k=x::(b.batches.take n).drop (k+1)∧BB x:=λk hk=>by
  have h1:(b.batches.take n)[k]?=some (b.batches.take n)[k]:=Qb Om;refine⟨_,h1,?_,by rw[Qx Om],(hbb _ (Qn _)).1⟩;rw[Qi];have h2:(b.batches.take n)[k]?=b.batches[k]?:=by rw[List.getElem?_take,if_pos hk]
  rw[<-h2,h1]
  try rfl
 unfold lR gR z8 ofR at *;generalize b.batches.take n=bs at sc hix;generalize itsE b.base=its at rf fg hlm;by_cases he:jw b.base=.no
 .rw[he]at fg
  simp only[if_pos he];rw[if_pos rfl]at fg;apply qf [];repeat' (first|apply Qa|(intro h;try exact cDd)|exact⟨Tryz.call77⟩|refine cpe fg ?_|exact cSd|apply qd []|refine exr ?_|refine qg ?_)
  refine zx (X:=Nat×RunV) (λ(k,r)=>⟨[(1,.i n),(2,.a (.pp [Iv b.gen,Sv b.base,qbj b.batches,wn b.ends,Sv b.tail])),(4,.bx 0 0),(8,.bx 1 0),(11,.tp 2),(12,.i k)],[(0,some (.cells 108 [.a zn,.i 0])),(1,some (.cells 108 [.a (qhq r.l.ents),.i r.l.next])),(2,some (.tip 1 24 (r.given.map wn)))],3⟩)
   (λ(k,r)=>k<=n∧LB (300000+40*k) r.l∧LM r.l∧r.given.length=k∧z0 (bs.drop k) r=z0 bs ⟨ofF its,[],[]⟩) (λ(k,r)=>n-k) (0,⟨ofF its,[],[]⟩) ⟨Om,rf,hlm,rfl,rfl⟩ ?_ ?_
  .skip
   repeat' (first|apply Qa|(intro h;try exact cDd)|exact cSd|apply qd []|refine exr ?_|refine qg ?_)
   all_goals first|rfl|(simp;done)
  .rintro⟨k,r⟩ ⟨hk,hq,hqm,mf,a8⟩
   by_cases e9:k<n
   .obtain⟨x,hx,i3,hdr,hxb⟩:=hix k e9
    rw[hdr,z0]at a8;have mb:=λst=>zga (300000+40*k) r.l x st hq hqm Om hxb.2 hxb.1;have hgm:(r.given.map wn).length=k:=by simp[mf]
    unfold doR at mb;by_cases hok:(doF r.l x).1=.no
    .rw[if_pos hok]at a8
     simp only[if_pos hok]at mb;have hgl2:(qaf r x).given.length=k+1:=by simp[qaf,mf]
     have hlb3:LB (300000+40*(k+1)) (qaf r x).l:=qgx (qwc hq Om x) Om Om;have hlm3:LM (qaf r x).l:=zep hqm hq Om x;apply qf [];repeat' (first|apply Qa|(intro h;try exact cDd)|(refine Qc (k) ⟨Om,_,i3,?_⟩)|exact⟨Tryz.call78⟩|refine cpe mb ?_|(refine Qc (k+1,qaf r x) ⟨⟨Om,hlb3,hlm3,hgl2,a8⟩,by simp only;omega,?_⟩)|exact cSd|apply qd []|refine exr ?_|refine qg ?_)
     all_goals first|(simp[qaf];done)|(simp[qaf];omega)
    .rw[if_neg hok]at a8
     rw[<-a8];simp only[if_neg hok]at mb;have gq:=zic hok;generalize(doF r.l x).1.code=c at mb gq;simp only[reduceCtorEq,if_false,mf];apply qf [];repeat' (first|apply Qa|(intro h;try exact cDd)|(refine Qc (k) ⟨Om,_,i3,?_⟩)|exact⟨Tryz.call78⟩|refine cpe mb ?_|exact cSd|apply qd []|refine exr ?_|refine qg ?_)
   .have e9:k=n:=by omega
    subst e9;rw[Xh Om,z0]at a8;rw[<-a8,if_pos rfl];apply qf [];repeat' (first|apply Qa|(intro h;try exact cDd)|exact cSd|apply qd []|refine exr ?_|refine qg ?_)
 .simp only[if_neg he]at fg⊢
  obtain⟨its',p,m,lq,hp,hm,lk⟩:=qrr b.base hB.base;have hz:m≠0:=λh=>he (lk.1 h);rw[<-hp,<-hm]at fg⊢;apply qf [];repeat' (first|apply Qa|(intro h;try exact cDd)|exact⟨Tryz.call77⟩|refine cpe fg ?_|exact cSd|apply qd []|refine exr ?_|refine qg ?_)
theorem zge(b:j5)(st:List AObj)(hB:BkB b):qr E 76 [qbd b] st λr st'=>r=.tu [xb (lR b b.batches.length),Iv (z8 b.base b.batches).1.pos,Iv (z8 b.base b.batches).1.code]∧st'=st:=by
 refine zj [.a (qbd b)] (qad (y9 _) (qt _) (qt _)) Tryz.func76 rfl rfl (λ_=>rfl) rfl λS0=>?_;have h1:=λst=>qp4 b b.batches.length st hB (Qs _);rw[Za]at h1;have o0:(b.batches.map zr).length=b.batches.length:=Sx
 rw[<-o0]at h1⊢;apply qf [];repeat' (first|apply Qa|(intro h;try exact cDd)|exact⟨Tryz.call44⟩|refine cpe h1 ?_|exact cSd|apply qd []|refine exr ?_|refine qg ?_)
theorem q1r{text:qc}(h:(jj text).1=.no):BkB (jj text).2:=qen (qkz (text:=text) (b:=(jj text).2) (by rw[<-h]))
theorem zjk{text:qc}(h:jw text≠.no):(jw text).code≠0:=by
 cases lv:jw text with
 |no=>exact absurd lv h
 |num n=>have:=qo6 lv;simp[ErrV.code];omega
 |at' a n=>have:=qrh lv;simpa[ErrV.code]using this
theorem qp1:∀(bs:List (List qp))(r:RunV),(z0 bs r).1≠.no->(z0 bs r).1.code≠0
 | [],r,h=>by simp[z0]at h
 |b::q,r,h=>by
  unfold z0 at h⊢;split
  .rename_i he
   rw[if_pos he]at h;exact qp1 q _ h
  .exact(by decide:(10:Int)≠0)
theorem qxf{base:qc}{bs:List (List qp)}(h:(z8 base bs).1≠.no):(z8 base bs).1.code≠0:=by
 unfold z8 at h⊢;split
 .rename_i he
  rw[if_pos he]at h;exact qp1 _ _ h
 .rename_i he
  exact zjk he
def q6y(q:ErrV×j5×qu):AV:=.tu [qbd q.2.1,xb (if q.1=.no then q.2.2 else⟨[],0,0⟩),Iv q.1.pos,Iv q.1.code]
theorem q80(text:qc)(st:List AObj)(hl:text.length<1000000):qr E 43 [Sv text] st λr st'=>r=q6y (jx text)∧st'=st:=by
 refine zj [.s text] (qlh (qe9 _) (y9 _) (qt _) (qt _)) Tryz.func43 rfl rfl (λ_=>rfl) rfl λS0=>?_;have bn:=λst=>q8w text st hl;unfold jx q6y;by_cases hb:(jj text).1=.no
 .have hBk:=q1r hb
  have hpr:jw (jj text).2.base=.no:=(qkz (text:=text) (b:=(jj text).2) (by rw[<-hb])).parse;simp only[if_pos hb];unfold qdc at bn;rw[hb]at bn;generalize(jj text).2=b at bn hBk hpr;have fg:=λst=>zge b st hBk;have hlr:lR b b.batches.length=(z8 b.base b.batches).2.l:=by unfold lR;rw[if_pos hpr,Za]
  rw[hlr]at fg;have gq:=@qxf b.base b.batches;generalize z8 b.base b.batches=p at fg gq;obtain⟨e,r⟩:=p;dsimp only at fg gq⊢;by_cases he:e=.no
  .subst he
   rw[if_pos rfl];apply qf [];repeat' (first|apply Qa|(intro h;try exact cDd)|exact⟨Tryz.call75⟩|refine cpe bn ?_|exact⟨Tryz.call76⟩|refine cpe fg ?_|exact cSd|apply qd []|refine exr ?_|refine qg ?_)
  .have gq:=gq he
   simp only[if_neg he];generalize e.code=c at fg gq;generalize e.pos=c2 at fg;unfold qao;apply qf [];repeat' (first|apply Qa|(intro h;try exact cDd)|exact⟨Tryz.call75⟩|refine cpe bn ?_|exact⟨Tryz.call76⟩|refine cpe fg ?_|exact cSd|apply qd []|refine exr ?_|refine qg ?_)
 .have gq:=qv3 hb
  simp only[if_neg hb];unfold qdc at bn;generalize(jj text).1.code=c at bn gq;generalize(jj text).1.pos=c2 at bn;unfold qao;apply qf [];repeat' (first|apply Qa|(intro h;try exact cDd)|exact⟨Tryz.call75⟩|refine cpe bn ?_|exact cSd|apply qd []|refine exr ?_|refine qg ?_)
def qhd:qc:=[65,58,32,49,10]
theorem zdb(text:qc):LB 860000 (jx text).2.2∧LI (jx text).2.2:=by
 have h0:LB 860000 (ofF [])∧LI (ofF []):=⟨⟨Om,by simp[ofF],by simp[ofF],by simp[ofF],by simp[ofF],by simp[ofF]⟩,by simp[ofF,LI]⟩;unfold jx;split
 .rename_i hb
  have hBk:=q1r hb;split
  .have:=quy (jj text).2.base (jj text).2.batches hBk.len
   exact⟨this.1,this.2.2⟩
  .exact h0
 .exact h0
theorem zog{e:ErrV}(h:e≠.no->e.code≠0):okE e:=by
 cases e with
 |no=>trivial
 |num n=>exact h Sx
 |at' a n=>exact h Sx
theorem qtw{text:qc}(h:(jx text).1≠.no):(jx text).1.code≠0:=by
 unfold jx at h⊢;split
 .rename_i hb
  rw[if_pos hb]at h;split
  .rename_i hp
   rw[if_pos hp]at h;exact absurd rfl h
  .rename_i hp
   exact qxf hp
 .rename_i hb
  exact qv3 hb
end Go.Proofs.YtihlchbgjdkmpaaGreatDoor
namespace Go.Pl
open Go Go.Proofs
def qct:List EntV->Option (EntV×List EntV)
 | []=>none
 |e::r=>if 0<e.id then some (e,r)else qct r
def stzF(es:List EntV):List (Int×List Fld):=(es.filter λe=>decide (0<e.id)).map λe=>(e.id,e.x.fields)
theorem qo2:∀{r:List EntV},qct r=none->stzF r=[]
 | [],_=>rfl
 |e::r,h=>by
  unfold qct at h;split at h
  .simp at h
  .rename_i h0
   have:=qo2 h
   simpa[stzF,h0]using this
theorem qo3:∀{r:List EntV}{e:EntV}{q:List EntV},qct r=some (e,q)->0<e.id∧e∈r∧stzF r=(e.id,e.x.fields)::stzF q∧q.length<r.length∧∀y∈q,y∈r
 |x::r,e,q,h=>by
  unfold qct at h;split at h
  .rename_i h0
   simp only[Qd,Qj]at h;obtain⟨rfl,rfl⟩:=h;exact⟨h0,Sx,by simp[stzF,h0],Sx,λy hy=>by simp[hy]⟩
  .rename_i h0
   obtain⟨h1,h2,h3,h4,h5⟩:=qo3 h;exact⟨h1,by simp[h2],by simpa[stzF,h0]using h3,So,λy hy=>by simp[h5 y hy]⟩
end Go.Pl
namespace Go.Proofs.YtihlchbgjdkmpaaGreatDoor
open Go Go.Av Go.RowKit Go.Proofs Go.Pl
theorem zoi{m:Nat}{T:TypeId}{S':List AObj}{cs0:List AV}(h:S'.length=m∨∃cs,S'[m]?=some (.cells 0 T cs)):∃cs,(S'++[AObj.cells 0 T cs0])[m]?=some (.cells 0 T cs):=by
 rcases h with rfl |⟨cs,h⟩
 .exact⟨cs0,Sx⟩
 .exact⟨cs,by rw[Qy (lt_of_getElem? h)];exact h⟩
theorem zoj{m:Nat}{T:TypeId}{S':List AObj}(h:S'.length=m∨∃cs,S'[m]?=some (.cells 0 T cs)):m<=S'.length:=by
 rcases h with rfl |⟨cs,h⟩
 .omega
 .exact Nat.le_of_lt (lt_of_getElem? h)
theorem qn1{L:List (Tmp×AV)}{st:List AObj}{df:List Nat}{s:AS}(h:StA L st df s):StA L (st++[]) df s:=by
 rw[Zc];exact h
theorem zk6(l:qu)(o kb n m:Nat)(I:List EntV->List AObj->Prop)(D:List AObj->Prop)(S:List AObj)(hm:S.length=m)(hn:n<=m)(hl:l.ents.length<1000000)(h0:I l.ents S)
  (hI:∀r S',I r S'->S'[kb]?=some (.cells 0 27 [v4 l]))
  (e8:∀r S' S'',Ext n S' S''->I r S'->I r S'')
  (hY:∀r e q S' cs,I r S'->S'[m]?=some (.cells 0 100 cs)->qct r=some (e,q)->yv E o [entA e] S' λb S''=>S''[m]?=some (.cells 0 100 cs)∧(b=true->I q S'')∧(b=false->D S'')):
  qr E 68 [.yd o,.bx kb 0 0] S λr S'=>(∃i,qct i=none∧I i S')∨D S':=by
 refine qs Tryz.func68 rfl (Ze rfl) ?_;have hb:=hI _ S h0;have hmi:(l.ents.map entA).length=l.ents.length:=Sx
 repeat' (first|apply qq|apply q6|apply qh|apply qj|apply ql|(apply qe;exact rfl;apply cd_f;exact cRa)|(apply jp;(iterate 4 exact rfl))|(apply yf;(iterate 4 exact rfl))|(apply jq;(iterate 3 exact rfl))|(apply wv;exact rfl;exact rfl)|(apply qbi;(iterate 3 exact rfl))|apply qz|(apply qbh;exact rfl;exact rfl;exact hb;exact rfl;exact rfl))
 refine jt (λ(k:Nat)s=>∃S' r,I r S'∧(S'.length=m∨∃cs,S'[m]?=some (.cells 0 100 cs))∧k<=l.ents.length∧qct r=qct (l.ents.drop k)∧StA [(0,.yd o),(10,.sl 4 (l.ents.map entA) none),(11,Iv l.ents.length),(12,Iv k)] (S'++[]) [] s) (λk=>l.ents.length-k) 0
  ⟨_,_,e8 _ _ _ (qic Om) h0,.inl (by simpa using hm),Om,Sx,qn1 (z7 ⟨rfl,rfl,congrArg (λn:Nat=>Iv (n:Int)) hmi,rfl,trivial⟩)⟩ ?_
 rintro k _ ⟨S',r,hi,cg,hk,bv,t,rfl⟩;have o0:=zoj cg;by_cases e9:k<l.ents.length
 .have hx:l.ents[k]?=some l.ents[k]:=Qb e9
  have i3:(l.ents.map entA)[k]?=some (entA l.ents[k]):=by rw[Qi,hx];rfl
  rw[Qx e9,qct]at bv;generalize l.ents[k]=e at hx i3 bv;obtain⟨cs,sj⟩:=zoi (cs0:=(entA e).cells) cg;by_cases he:0<e.id
  .rw[if_pos he]at bv
   repeat' (first|apply qq|apply q6|apply qh|apply qj|apply ql|(apply qv;(iterate 3 exact rfl))|(apply qx;(iterate 4 exact rfl))|(apply xf;exact cAo)|(apply qe;exact rfl;apply vo;exact cAo)|(apply j7;exact rfl;exact rfl)|(apply zl;(iterate 3 exact rfl))|(apply jq;(iterate 3 exact rfl))|(apply jr;(iterate 5 exact rfl))|(apply jc;(iterate 11 exact rfl))|apply qz|(apply kp (n:=k);(iterate 5 exact rfl);exact i3))
   apply qdh (o:=o) rfl;refine yv.mono (hY r e _ _ cs (e8 _ _ _ (qic Om) hi) sj bv) ?_;rintro b S2 ⟨h1,h2,h3⟩
   show AOps _ _ _ _ _ _ _
   cases b
   .skip
    repeat' (first|apply qj|(apply ja;exact rfl)|(apply qx;(iterate 4 exact rfl))|(apply xf;exact cAo)|(apply qk;exact rfl;apply w7;exact cAo)|(apply qe;exact rfl;apply qit;exact cRa)|apply qw)
    exact qo rfl (yx rfl) (.inr (h3 rfl))
   .skip
    repeat' (first|apply qh|apply qj|apply ql|(apply ja;exact rfl)|(apply qx;(iterate 4 exact rfl))|(apply xf;exact cAo)|(apply qk;exact rfl;apply w7;exact cAo)|(apply qe;exact rfl;apply qis;exact cRa)|(apply zo;exact rfl;exact rfl;exact q8 Om Om)|apply qz)
    exact⟨k+1,⟨_,_,h2 rfl,.inr ⟨cs,h1⟩,Om,rfl,qn1 (z7 ⟨rfl,rfl,rfl,rfl,trivial⟩)⟩,Om⟩
  .rw[if_neg he]at bv
   repeat' (first|apply qq|apply q6|apply qh|apply qj|apply ql|(apply qv;(iterate 3 exact rfl))|(apply qx;(iterate 4 exact rfl))|(apply xu;exact cAo)|(apply qk;exact rfl;apply wt;exact cAo)|(apply qe;exact rfl;apply vo;exact cAo)|(apply qe;exact rfl;apply cd_f;exact cRa)|(apply zo;exact rfl;exact rfl;exact q8 Om Om)|(apply j7;exact rfl;exact rfl)|(apply zl;(iterate 3 exact rfl))|(apply jq;(iterate 3 exact rfl))|(apply jr;(iterate 5 exact rfl))|(apply jc;(iterate 11 exact rfl))|apply qz|(apply kp (n:=k);(iterate 5 exact rfl);exact i3))
   exact⟨k+1,⟨_,_,e8 _ _ _ (qic Om) hi,.inr ⟨cs,sj⟩,Om,bv,qn1 (z7 ⟨rfl,rfl,rfl,rfl,trivial⟩)⟩,Om⟩
 .rw[Xh Om,qct]at bv
  repeat' (first|apply qq|apply qh|apply qj|(apply qv;(iterate 3 exact rfl))|(apply qe;exact rfl;apply v8;exact cAo)|apply jd)
  exact qo rfl (yx rfl) (.inl ⟨r,bv,e8 _ _ _ (qic Om) hi⟩)
def allY(r:List EntV):Option (SV×List EntV):=(qct r).map λx=>(.a (entA x.1),x.2)
theorem zng(l:qu)(hl:l.ents.length<1000000):ItC 68 27 [v4 l] (evY allY) l.ents:=⟨λo kb n m I D S hm hn h0 hI e8 hY=>by
 refine(zk6 l o kb n m I D S hm hn hl h0 hI e8 λr e q S' cs hi cg hx=>?_).mono ?_
 .refine(hY r (entA e) q S' [.cells 0 100 cs] hi (λj y hy=>?_) (by simp[evY,allY,hx,SV.ev])).mono λb S'' ⟨h1,h2,h3⟩=>⟨by have:=h1 0 _ rfl;simpa using this,h2,h3⟩
  match j with
  |0=>
   simp only[Qm,Qd]at hy;subst hy
   exact⟨cg,qba rfl⟩
  |j+1=>simp at hy
 .rintro r S' (⟨i,h1,h2⟩|h)
  .exact .inl ⟨i,by simp[evY,allY,h1],h2⟩
  .exact .inr h⟩
theorem zfd(l:qu):va E 39 [.a (v4 l)] 0 (hpF []) ⟨.fn (.func 68) [] [.bx 0 0],kr [],[(0,some (.cells 27 [.a (v4 l)]))]++vv [],1⟩:=by
 refine xl [.a (v4 l)] [] 0 (.fn (.func 68) [] [.bx 0 0]) [(0,some (.cells 27 [.a (v4 l)]))] 1 Tryz.func39 rfl rfl rfl rfl λS F ρ=>?_;apply qf [1];repeat' (first|apply Qa|(intro h;try exact cDd)|exact cSd|apply qd [1]|refine exr ?_|refine qg ?_)
end Go.Proofs.YtihlchbgjdkmpaaGreatDoor
namespace Go.Pl
open Go Go.Proofs
def qi0(id:Int):Nat->List (Int×List Fld)->Int
 |_,[]=> -1
 |k,x::r=>if x.1=id then(k:Int)else qi0 id (k+1) r
def qlg(l:qu)(id:Int):Int:=qi0 id 0 (stzF l.ents)
end Go.Pl
namespace Go.Proofs.YtihlchbgjdkmpaaGreatDoor
open Go Go.Av Go.RowKit Go.Proofs Go.Pl
@[reducible] def stzA (x : Int × List Fld) : AV := .ag [Iv x.1, jl x.2]
@[reducible] def zk0 (s : List (Int × List Fld)) : AV := .sl 2 (s.map stzA) none
theorem zdk(s:List (Int×List Fld)):Pure (zk0 s):=qaz λx hx=>by
 obtain⟨f,_,rfl⟩:=Qo.1 hx;intro y hy;simp only[AV.cells,Qe,Qk,or_false]at hy;rcases hy with rfl|rfl
 .exact qt _
 .exact qa1 _
theorem zkk(es:List EntV):(stzF es).length<=es.length:=by
 unfold stzF;rw[Xu];exact List.length_filter_le _ _
theorem qru{N:Nat}{B:Bs}{C:Conf}{Q:Exit->Conf->Prop}{X:Type}{f:Operand}{p:Tmp}{asg body:Code}(l:qu)(kb n0:Nat)(ks:List Nat)(I:X->Conf)(sl0:List (Nat×SV))(P:List EntV->X->Prop)(D:Code->X->Prop)(x0:X)(h0:P l.ents x0)
  (he:EntA B.n0 C (I x0)) (hz:¬B.dz) (hl:l.ents.length<1000000) (gp:∀x,(I x).sl=sl0)
  (hf:sval N sl0 f=some (.fn (.func 68) [] [.bx kb 0]))
  (hkb:∀x,lkS (I x).hp kb=some (some (.cells 27 [.a (v4 l)])))
  (hr:∀x,qbr n0 ks (I x).sl (I x).hp (I x).nx=true) (h0r:(ksIn n0 ks (I x0).hp&&Ye B.n0 n0)=true)
  (hb:∀r e q x,P r x->qct r=some (e,q)->RA E N n0 asg (λF ρ C1=>RB E N F ρ n0 body (rndQ n0 (P q) D I) C1) ⟨(p,.a (entA e))::(I x).sl,(I x).hp,(I x).nx⟩)
  (hn:∀r x,qct r=none->P r x->Q .normal (I x)) (hd:∀c x,D c x->q2r Q c (I x)):Sm E none N B (.rangeFunc f #[p] asg body) Q C:=by
 refine qty (zng l hl) Tryz.call68 (λi v j h=>?_) kb n0 [.a (v4 l)] (λ_=>rfl) ks I sl0 P D x0 h0 he hz gp hf hkb hr h0r (λi x v j hp h=>?_) (λi x h hp=>?_) hd
 .unfold allY at h
  cases hx:qct i with
  |none=>rw[hx]at h;simp at h
  |some y=>
   rw[hx]at h;simp only[Xe,Qd,Qj]at h;rw[<-h.1]
   try rfl
 .unfold allY at h
  cases hx:qct i with
  |none=>rw[hx]at h;simp at h
  |some y=>
   rw[hx]at h;simp only[Xe,Qd,Qj]at h;obtain⟨h1,h2⟩:=h;rw[<-h1,<-h2];exact hb i y.1 y.2 x hp hx
 .unfold allY at h
  cases hx:qct i with
  |none=>exact hn i x hx hp
  |some y=>rw[hx]at h;simp at h
theorem zck(l:qu)(st:List AObj)(hl:l.ents.length<1000000)(hI:∀e∈l.ents,e.x.fields.length<1000000):qr E 14 [v4 l] st λr st'=>r=zk0 (stzF l.ents)∧st'=st:=by
 refine zj [.a (v4 l)] (zdk _) Tryz.func14 rfl rfl (λ_=>rfl) rfl λS0=>?_;apply qf [];repeat' (first|apply Qa|(intro h;try exact cDd)|exact⟨Tryz.call39⟩|(refine jm (zfd l) ?_)|exact cSd|apply qd []|refine exr ?_|refine qg ?_)
 refine qru (X:=List (Int×List Fld)) l 1 2 [0,1] (λout=>⟨[(3,.bx 0 0),(6,.fn (.func 68) [] [.bx 1 0])],[(0,some (.cells 39 [.tp 2])),(1,some (.cells 27 [.a (v4 l)])),(2,some (.tip 2 93 (out.map stzA)))],3⟩) _
  (λr out=>out++stzF r=stzF l.ents∧out.length+r.length<=l.ents.length∧∀y∈r,y∈l.ents) (λ_ _=>False) [] ⟨Sx,Sx,λ_ h=>h⟩ ?_ id hl (λ_=>rfl) rfl (λ_=>rfl) (λ_=>rfl) rfl ?_ ?_ (λ_ _ h=>h.elim)
 .skip
  repeat' (first|apply Qa|(intro h;try exact cDd)|exact cSd|apply qd []|refine exr ?_|refine qg ?_)
 .rintro r e q out ⟨h1,h2,h3⟩ hx
  obtain⟨g1,g2,g3,g4,g5⟩:=qo3 hx;rw[g3]at h1;have gr:=λst=>qho e.x.fields st (hI e (h3 e g2));have o0:(out.map stzA).length=out.length:=Sx
  refine RA.mk λS F ρ rd=>?_;apply qf [];repeat' (first|apply Qa|(intro h;try exact cDd)|(refine RB.mk λS rd=>?_;apply qf [])|exact⟨Tryz.call40⟩|refine cpe gr ?_|(refine Qc (out++[(e.id,e.x.fields)]) ⟨⟨by rw[<-h1];simp,So,λy hy=>h3 y (g5 y hy)⟩,?_⟩)|exact cSd|apply qd []|refine exr ?_|refine qg ?_)
  all_goals first|(simp[SV.evs,SV.ev];done)|(simp[SV.evs];omega)
 .rintro r out hx ⟨h1,h2,h3⟩
  rw[qo2 hx,Zc]at h1;rw[<-h1];repeat' (first|apply Qa|(intro h;try exact cDd)|exact cSd|apply qd []|refine exr ?_|refine qg ?_)
theorem zi8(l:qu)(id:Int)(st:List AObj)(hl:l.ents.length<1000000):qr E 58 [v4 l,Iv id] st λr st'=>r=Iv (qlg l id)∧st'=st:=by
 refine zj [.a (v4 l),.i id] (qt _) Tryz.func58 rfl rfl (λ_=>rfl) rfl λS0=>?_;apply qf [];repeat' (first|apply Qa|(intro h;try exact cDd)|exact⟨Tryz.call39⟩|(refine jm (zfd l) ?_)|exact cSd|apply qd []|refine exr ?_|refine qg ?_)
 refine qru (X:=Int×Nat) l 2 3 [0,1,2] (λ(c,n)=>⟨[(3,.a (.pp [Iv id])),(4,.bx 0 0),(5,.bx 1 0),(8,.fn (.func 68) [] [.bx 2 0])],[(0,some (.cells 3 [.i c])),(1,some (.cells 3 [.i n])),(2,some (.cells 27 [.a (v4 l)]))],3⟩) _
  (λr(c,n)=>c=0∧qi0 id n (stzF r)=qlg l id∧n+r.length<=l.ents.length) (λc x=>c=.ret∧x.1=qlg l id) (0,0) ⟨rfl,rfl,Sx⟩ ?_ (λh=>h) hl (λ_=>rfl) rfl (λ_=>rfl) (λ_=>rfl) rfl ?_ ?_ ?_
 .skip
  repeat' (first|apply Qa|(intro h;try exact cDd)|exact cSd|apply qd []|refine exr ?_|refine qg ?_)
 .rintro r e q ⟨c,n⟩ ⟨rfl,h1,h2⟩ hx
  obtain⟨g1,g2,g3,g4,g5⟩:=qo3 hx;rw[g3,qi0]at h1;by_cases he:e.id=id
  .rw[if_pos he]at h1
   refine RA.mk λS F ρ rd=>?_;apply qf [];repeat' (first|apply Qa|(intro h;try exact cDd)|(refine RB.mk λS rd=>?_;apply qf [])|(refine Qc ((n:Int),n) ⟨⟨rfl,h1⟩,?_⟩)|exact cSd|apply qd []|refine exr ?_|refine qg ?_)
  .rw[if_neg he]at h1
   refine RA.mk λS F ρ rd=>?_;apply qf [];repeat' (first|apply Qa|(intro h;try exact cDd)|(refine RB.mk λS rd=>?_;apply qf [])|(refine Qc ((0:Int),n+1) ⟨⟨rfl,h1,Om⟩,?_⟩)|exact cSd|apply qd []|refine exr ?_|refine qg ?_)
   all_goals first|(simp[SV.evs,SV.ev];done)|(simp[SV.evs];omega)
 .rintro r ⟨c,n⟩ hx ⟨rfl,h1,h2⟩
  rw[qo2 hx,qi0]at h1;rw[<-h1];repeat' (first|apply Qa|(intro h;try exact cDd)|exact cSd|apply qd []|refine exr ?_|refine qg ?_)
 .rintro c ⟨c',n⟩ ⟨rfl,h1⟩
  dsimp only at h1;subst h1;repeat' (first|apply Qa|(intro h;try exact cDd)|exact cSd|apply qd []|refine exr ?_|refine qg ?_)
theorem qrs{text:qc}{b:j5}{r:RunV}(hT:xy text b)(hp:z8 b.base b.batches=(.no,r)):jx text=(.no,b,r.l):=by
 unfold jx;rw[q9h hT];simp[hp]
theorem qfm{text:qc}(h:(jx text).1=.no):∃b r,xy text b∧z8 b.base b.batches=(.no,r)∧jx text=(.no,b,r.l):=by
 by_cases hb:(jj text).1=.no
 .have hT:=qkz (text:=text) (b:=(jj text).2) (by rw[<-hb])
  by_cases hp:(z8 (jj text).2.base (jj text).2.batches).1=.no
  .have pb:z8 (jj text).2.base (jj text).2.batches=(.no,(z8 (jj text).2.base (jj text).2.batches).2):=by rw[<-hp]
   exact⟨_,_,hT,pb,qrs hT pb⟩
  .unfold jx at h
   rw[if_pos hb,if_neg hp]at h;exact absurd h hp
 .unfold jx at h
  rw[if_neg hb]at h;exact absurd h hb
theorem qp2:∀(bs:List (List qp))(r r':RunV)(x:List qp),z0 bs r=(.no,r')->(doF r'.l x).1=.no->z0 (bs++[x]) r=(.no,qaf r' x)
 | [],r,r',x,h,hd=>by
  simp only[z0,Qj,true_and]at h;subst h
  show z0 [x] r=_
  unfold z0;rw[if_pos hd]
  try rfl
 |b::q,r,r',x,h,hd=>by
  unfold z0 at h
  show z0 (b::(q++[x])) r=_
  unfold z0;split at h
  .rename_i hb
   rw[if_pos hb];exact qp2 q _ _ _ h hd
  .simp at h
theorem zcw{base:qc}{bs:List (List qp)}{r:RunV}{x:List qp}(h:z8 base bs=(.no,r))(hd:(doF r.l x).1=.no):z8 base (bs++[x])=(.no,qaf r x):=by
 unfold z8 at h⊢;split at h
 .rename_i hp
  rw[if_pos hp];exact qp2 _ _ _ _ h hd
 .rename_i hp
  simp only[Qj]at h;exact absurd h.1 hp
end Go.Proofs.YtihlchbgjdkmpaaGreatDoor
namespace Go.Pl
open Go Go.Proofs
theorem qln(a b:List EntV):stzF (a++b)=stzF a++stzF b:=by simp[stzF]
end Go.Pl
namespace Go.Proofs.YtihlchbgjdkmpaaGreatDoor
open Go Go.Av Go.RowKit Go.Proofs Go.Pl
theorem qmm(l:qu)(x:qp):l.next<=(oneF l x).2.2.next:=by
 unfold oneF xg delF insF qh0 delL insL;split
 .split
  .exact Zh _
  .split
   .split <;>exact Zh _
   .exact Zh _
 .split
  .split <;>exact Zh _
  .split
   .exact Zh _
   .split
    .split
     .exact Zh _
     .simp only
      omega
    .exact Zh _
end Go.Proofs.YtihlchbgjdkmpaaGreatDoor
namespace Go.Pl
open Go Go.Proofs Go.Proofs.YtihlchbgjdkmpaaGreatDoor
def idsL(es:List EntV):List Int:=(es.filter λe=>decide (0<e.id)).map λe=>e.id
theorem qc8(a b:List EntV):idsL (a++b)=idsL a++idsL b:=by simp[idsL]
theorem qgw(e:EntV)(b:List EntV):idsL (e::b)=if 0<e.id then e.id::idsL b else idsL b:=by
 unfold idsL;by_cases h:0<e.id
 .rw[if_pos h,Xc (by simpa using h)];rfl
 .rw[if_neg h,Xd (by simpa using h)]
theorem qoz{es:List EntV}{n:Int}:n∈idsL es↔0<n∧∃e∈es,e.id=n:=by
 unfold idsL;simp only[Qo,Zp,decide_eq_true_eq];constructor
 .rintro⟨e,⟨he,h⟩,rfl⟩
  exact⟨h,e,he,rfl⟩
 .rintro⟨h,e,he,rfl⟩
  exact⟨e,⟨he,h⟩,rfl⟩
structure GN (l:qu):Prop where
 nd:(idsL l.ents).Nodup
 lt:∀e∈l.ents,e.id<l.next
 nx:1<=l.next
theorem zfo{l:qu}{x:zh}(h:GN l):GN (x4 l x):=by
 obtain⟨h1,h2,h3⟩:=h;unfold x4;split
 .refine⟨?_,λe he=>?_,by simp only;omega⟩
  .simp only
   rw[qc8,qgw,if_pos (by simp only;omega)];refine Zw.2 ⟨h1,by simp[idsL],λa ha b hb=>?_⟩;obtain⟨_,e,he,rfl⟩:=qoz.1 ha;have:=h2 e he;simp[idsL]at hb;omega
  .rcases Ql.1 he with he|he
   .have:=h2 e he;simp only;omega
   .simp only[Qe,Qk,or_false]at he;subst he;simp only;omega
 .refine⟨?_,λe he=>?_,h3⟩
  .simp only
   rw[qc8,qgw,if_neg Sx]
   simpa[idsL]using h1
  .rcases Ql.1 he with he|he
   .exact h2 e he
   .simp only[Qe,Qk,or_false]at he;subst he;simp only;omega
theorem q09:∀(its:List zh)(l:qu),GN l->GN (its.foldl x4 l)
 | [],l,h=>h
 |x::r,l,h=>q09 r (x4 l x) (zfo h)
theorem q5v(its:List zh):GN (ofF its):=q09 its ⟨[],1,0⟩ ⟨by simp[idsL],Sx,Sx⟩
theorem ziu{es:List EntV}{i:Nat}{e:EntV}{x:zh}(h:es[i]?=some e):idsL (es.set i ⟨x,e.id⟩)=idsL es:=by
 obtain⟨d8,rfl⟩:=Qr.1 h;have e1:=Qp i es;rw[Qx d8]at e1;rw[List.set_eq_take_append_cons_drop,if_pos d8]
 conv=>rhs;rw[<-e1]
 rw[qc8,qc8,qgw,qgw]
theorem q6u{l:qu}(h:GN l)(id:Int)(fs:List Fld):GN (xg l id fs).2:=by
 unfold xg;split
 .exact h
 .split
  .unfold qh0
   split
   .rename_i e he
    refine⟨by simp only;rw[ziu he];exact h.nd,λy hy=>?_,h.nx⟩;rcases Zx hy with hy|rfl
    .exact h.lt y hy
    .exact h.lt e (Qz he)
   .exact h
  .exact h
theorem q9p{l:qu}(h:GN l)(id:Int):GN (delF l id).2:=by
 unfold delF;split
 .exact h
 .generalize(atF l id).toNat=i
  refine⟨?_,λy hy=>?_,h.nx⟩
  .have:=h.nd
   rw[<-Qp i l.ents,qc8]at this;unfold delL;simp only;rw[qc8];refine Yb (Xz (Yc _) ?_) this;unfold idsL;refine Yd _ (Ya _ ?_);rw[<-List.drop_drop];exact List.drop_sublist 1 _
  .rcases Ql.1 hy with hy|hy
   .exact h.lt y (Qw hy)
   .exact h.lt y (Zg hy)
theorem q93{l:qu}(h:GN l)(id:Int)(fs:List Fld):GN (insF l id fs).2.2:=by
 unfold insF;split
 .exact h
 .split
  .split
   .exact h
   .generalize(atF l id+1).toNat=k
    have hn:=h.nx;refine⟨?_,λy hy=>?_,by simp only[insL];omega⟩
    .have:=h.nd
     rw[<-Qp k l.ents,qc8]at this;unfold insL;simp only;rw[qc8,qgw,if_pos (by simp only;omega)];refine(List.perm_middle.nodup_iff).2 (Xf.2 ⟨λhm=>?_,this⟩);rw[<-qc8,Qp]at hm;obtain⟨_,e,he,bg⟩:=qoz.1 hm;have bg:e.id=l.next:=bg;have:=h.lt e he;omega
    .show y.id<l.next+1
     rcases Ql.1 hy with hy|hy
     .have:=h.lt y (Qw hy);omega
     .rcases Qe.1 hy with rfl|hy
      .simp only;omega
      .have:=h.lt y (Zg hy);omega
  .exact h
theorem qff{l:qu}(h:GN l)(x:qp):GN (oneF l x).2.2:=by
 unfold oneF;split
 .exact q6u h _ _
 .split
  .exact q9p h _
  .exact q93 h _ _
theorem q0e:∀(b:List qp)(k:Nat)(l:qu)(ids:List Int),GN l->GN (kg k b l ids).2.1
 | [],_,l,_,h=>h
 |x::r,k,l,ids,h=>by
  unfold kg;split
  .exact q0e r _ _ _ (qff h x)
  .exact h
theorem qqr{l:qu}(h:GN l)(b:List qp):GN (doF l b).2.1:=by
 unfold doF;split
 .exact q0e b 0 l [] h
 .exact h
theorem qtq:∀(bs:List (List qp))(r:RunV),GN r.l->GN (z0 bs r).2.l
 | [],r,h=>h
 |b::bs,r,h=>by
  unfold z0;split
  .exact qtq bs _ (qqr h b)
  .first|exact qqr h b|exact h
theorem q6a(base:qc)(bs:List (List qp)):GN (z8 base bs).2.l:=by
 unfold z8;split
 .exact qtq bs _ (q5v _)
 .exact q5v _
theorem zax(es:List EntV):(stzF es).map Xs=idsL es:=by
 unfold stzF idsL;rw[Zz];rfl
theorem qc0(e:EntV)(b:List EntV):stzF (e::b)=if 0<e.id then(e.id,e.x.fields)::stzF b else stzF b:=by
 unfold stzF;by_cases h:0<e.id
 .rw[if_pos h,Xc (by simpa using h)];rfl
 .rw[if_neg h,Xd (by simpa using h)]
theorem qjq:∀(es:List EntV)(a b:List (Int×List Fld))(x:Int×List Fld),stzF es=a++x::b->∃A e B,es=A++e::B∧stzF A=a∧stzF B=b∧0<e.id∧x=(e.id,e.x.fields)
 | [],a,b,x,h=>by
  have:stzF []=[]:=rfl;rw[this]at h
  cases a<;>simp at h
 |e::r,a,b,x,h=>by
  rw[qc0]at h;by_cases he:0<e.id
  .rw[if_pos he]at h
   cases a with
   |nil=>
    simp only[Xg,Xv]at h
    exact⟨[],e,r,rfl,rfl,h.2,he,h.1.symm⟩
   |cons y a=>
    simp only[Zb,Xv]at h;obtain⟨A,e',B,rfl,h1,h2,h3,h4⟩:=qjq r a b x h.2;exact⟨e::A,e',B,rfl,by rw[qc0,if_pos he,h1,h.1],h2,h3,h4⟩
  .rw[if_neg he]at h
   obtain⟨A,e',B,rfl,h1,h2,h3,h4⟩:=qjq r a b x h;exact⟨e::A,e',B,rfl,by rw[qc0,if_neg he,h1],h2,h3,h4⟩
theorem q91{id:Int}{e:EntV}{B:List EntV}(he:e.id=id):∀(A:List EntV)(k:Nat),(∀y∈A,y.id≠id)->xc id k (A++e::B)=((k+A.length:Nat):Int)
 | [],k,_=>by
  rw[Xg,xc,if_pos he]
  rfl
 |y::A,k,h=>by
  rw[Zb,xc,if_neg (h y Sx),q91 he A (k+1) λz hz=>h z (by simp[hz])];simp only[Qh];omega
theorem qt9{l:qu}{A B:List EntV}{e:EntV}(h:GN l)(hs:l.ents=A++e::B)(he:0<e.id):atF l e.id=(A.length:Int):=by
 unfold atF;rw[if_neg Om,hs,q91 rfl A 0 λy hy hh=>?_]
 .simp
 .have dp:=h.nd
  rw[hs,qc8,qgw,if_pos he]at dp;have hm:y.id∈idsL A:=qoz.2 ⟨Om,y,hy,rfl⟩;exact(Zw.1 dp).2.2 _ hm _ Sx hh
theorem q6v{l:qu}{a b:List (Int×List Fld)}{id:Int}{f fs:List Fld}(h:GN l)(hs:stzF l.ents=a++(id,f)::b)(hc:z4 fs=.no):(xg l id fs).1=.no∧stzF (xg l id fs).2.ents=a++(id,fs)::b∧(xg l id fs).2.next=l.next:=by
 obtain⟨A,e,B,h1,h2,h3,h4,h5⟩:=qjq _ _ _ _ hs;simp only[Qj]at h5;obtain⟨rfl,rfl⟩:=h5;unfold xg;rw[qt9 h h1 h4,if_neg Om,if_pos hc,Zd];unfold qh0;have hg:l.ents[A.length]?=some e:=by rw[h1];simp
 rw[hg];refine⟨rfl,?_,rfl⟩;simp only;rw[h1,List.set_append_right _ _ (Qs _),Nat.sub_self,List.set_cons_zero,qln,qc0,if_pos h4,h2,h3];unfold yn;rw[if_pos hc]
theorem q9q{l:qu}{a b:List (Int×List Fld)}{id:Int}{f:List Fld}(h:GN l)(hs:stzF l.ents=a++(id,f)::b):(delF l id).1=.no∧stzF (delF l id).2.ents=a++b∧(delF l id).2.next=l.next:=by
 obtain⟨A,e,B,h1,h2,h3,h4,h5⟩:=qjq _ _ _ _ hs;simp only[Qj]at h5;obtain⟨rfl,rfl⟩:=h5;unfold delF;rw[qt9 h h1 h4,if_neg Om,Zd];refine⟨rfl,?_,rfl⟩;unfold delL;simp only;rw[h1,Xi,show(A++e::B).drop (A.length+1)=B by simp,qln,h2,h3]
theorem q94{l:qu}{a b:List (Int×List Fld)}{bh:Int}{fs:List Fld}(h:GN l)(hs:stzF l.ents=a++b)(hb:bh=(a.getLast?.map Xs).getD 0)(hc:z4 fs=.no):
  (400<=l.many∧(insF l bh fs).2.1=.num 11)∨((insF l bh fs).2.1=.no∧stzF (insF l bh fs).2.2.ents=a++(l.next,fs)::b∧(insF l bh fs).2.2.next=l.next+1∧(insF l bh fs).1=l.next):=by
 have hn:=h.nx
 have fin:∀A B:List EntV,l.ents=A++B->stzF A=a->stzF B=b->atF l bh+1=(A.length:Int)->(¬(atF l bh<0∧bh≠0))->
   (400<=l.many∧(insF l bh fs).2.1=.num 11)∨((insF l bh fs).2.1=.no∧stzF (insF l bh fs).2.2.ents=a++(l.next,fs)::b∧(insF l bh fs).2.2.next=l.next+1∧(insF l bh fs).1=l.next):=λA B h1 h2 h3 h4 h5=>by
  unfold insF;rw[if_neg h5,if_pos hc];by_cases hm:400<=l.many
  .rw[if_pos hm]
   exact .inl ⟨hm,rfl⟩
  .rw[if_neg hm,h4,Zd]
   refine .inr ⟨rfl,?_,rfl,rfl⟩;unfold insL;simp only;rw[h1,Xi,List.drop_left,qln,qc0,if_pos (by simp only;omega),h2,h3];unfold yn;rw[if_pos hc]
 rcases Zm a with rfl |⟨a',x,rfl⟩
 .have h0:bh=0:=by simpa using hb
  subst h0;refine fin [] l.ents rfl rfl (by simpa using hs) ?_ Sx;unfold atF;rw[if_pos Om];rfl
 .have hx:bh=x.1:=by simpa using hb
  subst hx;rw[Zn,List.append_assoc]at hs;obtain⟨A,e,B,h1,h2,h3,h4,h5⟩:=qjq _ _ _ _ hs;subst h5;have ha:=qt9 h h1 h4;refine fin (A++[e]) B (by rw[h1];simp) ?_ h3 (by rw[ha];simp) (by rw[ha];omega);rw[qln,qc0,if_pos h4,h2];simp[stzF]
def qhu(done:List (Int×List Fld)):Int:=(done.getLast?.map Xs).getD 0
theorem qm5(done:List (Int×List Fld))(x:Int×List Fld):qhu (done++[x])=x.1:=by simp[qhu]
theorem zbt{fs:List Fld}(h:GF fs)(b9:fs≠[]):z4 fs=.no:=by
 unfold z4;rw[if_neg b9,if_neg (by have:=h.1;omega)];have:=qs4 0 fs [] λx hx=>(qc5 x).2 (h.2 x hx);rw[Zc]at this;rw[this];rfl
theorem q8d{x:zh}(h:qa6 x)(hk:x.kind=3):z4 x.fields=.no:=by
 have hp:=q55 (its:=[x]) (by simpa using h) (by simp[cntI,hk]);have ha:qb3 [x]=[x]:=by simp[qb3,vn]
 have hm:=qm9 (wi (qb3 [x])) x (by rw[hp,ha];simp);exact zbt hm.1 (hm.2.1 hk)
theorem qmt{l:qu}(h:GL l):∀r∈(stzF l.ents).map Zj,z4 r=.no:=λr hr=>by
 unfold stzF at hr;simp only[Zz,Qo,Zp,decide_eq_true_eq]at hr;obtain⟨e,⟨he,h0⟩,rfl⟩:=hr;exact q8d (h.ok e he).1 ((h.ok e he).2.1 h0)
theorem qwj:∀(b:List qp)(k:Nat),(∀x∈b,gErr x=.no)->qa0 k b=.no
 | [],_,_=>rfl
 |x::r,k,h=>by
  rw[qa0,if_pos (by rw[h x Sx];rfl),qwj r (k+1) λy hy=>h y (by simp[hy])]
end Go.Pl
namespace Go.Pl
open Go Go.Proofs Go.Av Go.Proofs.YtihlchbgjdkmpaaGreatDoor
theorem qmn{l:qu}{x:qp}(h:GN l)(ho:(oneF l x).2.1=.no):
  (x.kind=1∧(oneF l x).1=0∧∃a b f,stzF l.ents=a++(x.id,f)::b∧stzF (oneF l x).2.2.ents=a++(x.id,x.fields)::b)∨
  (x.kind=2∧(oneF l x).1=0∧∃a b f,stzF l.ents=a++(x.id,f)::b∧stzF (oneF l x).2.2.ents=a++b)∨
  (x.kind≠1∧x.kind≠2∧(oneF l x).1=l.next∧∃a b,stzF l.ents=a++b∧stzF (oneF l x).2.2.ents=a++(l.next,x.fields)::b):=by
 have found:∀id:Int,¬atF l id<0->∃a b f,stzF l.ents=a++(id,f)::b:=λid ha=>by
  rcases qfu l id with g|⟨i,e,g1,g2,g3,g4⟩
  .omega
  .obtain⟨d8,he⟩:=Qr.1 g2
   refine⟨stzF (l.ents.take i),stzF (l.ents.drop (i+1)),e.x.fields,?_⟩;have e1:=Qp i l.ents;rw[Qx d8,he]at e1
   conv=>lhs;rw[<-e1]
   rw[qln,qc0,if_pos Om,g3]
 have hn:=h.nx;unfold oneF at ho⊢;by_cases h1:x.kind=1
 .rw[if_pos h1]at ho⊢
  have ha:¬atF l x.id<0:=λha=>by unfold xg at ho;rw[if_pos ha]at ho;simp at ho
  have hc:z4 x.fields=.no:=Classical.byContradiction λhc=>by
   unfold xg at ho;rw[if_neg ha,if_neg hc]at ho;exact hc ho
  obtain⟨a,b,f,hs⟩:=found x.id ha;exact .inl ⟨h1,rfl,a,b,f,hs,(q6v h hs hc).2.1⟩
 .rw[if_neg h1]at ho⊢
  by_cases h2:x.kind=2
  .rw[if_pos h2]at ho⊢
   have ha:¬atF l x.id<0:=λha=>by unfold delF at ho;rw[if_pos ha]at ho;simp at ho
   obtain⟨a,b,f,hs⟩:=found x.id ha;exact .inr (.inl ⟨h2,rfl,a,b,f,hs,(q9q h hs).2.1⟩)
  .rw[if_neg h2]at ho⊢
   have ha:¬(atF l x.id<0∧x.id≠0):=λha=>by unfold insF at ho;rw[if_pos ha]at ho;simp at ho
   have hc:z4 x.fields=.no:=Classical.byContradiction λhc=>by
    unfold insF at ho;rw[if_neg ha,if_neg hc]at ho;exact hc ho
   have hab:∃a b,stzF l.ents=a++b∧x.id=qhu a:=by
    by_cases h0:x.id=0
    .exact⟨[],stzF l.ents,rfl,h0⟩
    .obtain⟨a,b,f,hs⟩:=found x.id λhh=>ha ⟨hh,h0⟩
     exact⟨a++[(x.id,f)],b,by rw[hs];simp,by rw[qm5]⟩
   obtain⟨a,b,hs,hb⟩:=hab;rcases q94 (fs:=x.fields) h hs hb hc with⟨_,g⟩|⟨g1,g2,g3,g4⟩
   .rw[g]at ho;simp at ho
   .exact .inr (.inr ⟨h1,h2,g4,a,b,hs,g2⟩)
def qd1(l:qu)(id:Int):List Fld:=((stzF l.ents).find? λs=>decide (s.1=id)).map Zj |>.getD []
def yi(id:Int):Int->List (Int×List Fld)->Int
 |_,[]=>0
 |p,s::r=>if s.1=id then p else yi id s.1 r
def qd8(l:qu)(id:Int):Int:=yi id 0 (stzF l.ents)
structure qlt where
 kind:Int
 id:Int
 was:List Fld
 ahead:Int
def qa5(l:qu)(x:qp):qlt:=⟨x.kind,if 0<(oneF l x).1 then(oneF l x).1 else x.id,qd1 l x.id,qd8 l x.id⟩
def ya:List qp->qu->List qlt
 | [],_=>[]
 |x::r,l=>qa5 l x::ya r (oneF l x).2.2
def w6(L:List (Int×Int))(id:Int):Int:=if(L.any λq=>decide (q.1=id))=true then getM id L else id
def yp:List qlt->List (Int×Int)->Int->List qp
 | [],_,_=>[]
 |s::r,L,nx=>if s.kind=1 then⟨1,w6 L s.id,s.was⟩::yp r L nx else if s.kind=2 then⟨3,w6 L s.ahead,s.was⟩::yp r (setM s.id nx L) (nx+1)else⟨2,w6 L s.id,[]⟩::yp r L nx
theorem q3d(s t n:Int):∀(L:List (Int×Int)),((setM s n L).any λq=>decide (q.1=t))=(decide (s=t)||L.any λq=>decide (q.1=t))
 | []=>by simp[setM]
 |q::r=>by
  unfold setM;by_cases h:q.1=s
  .rw[if_pos h]
   simp only[Zu,h]
   cases decide (s=t)<;>simp
  .rw[if_neg h]
   simp only[Zu,q3d s t n r]
   cases decide (q.1=t)<;>cases decide (s=t)<;>simp
theorem qmk(L:List (Int×Int))(s t n:Int):w6 (setM s n L) t=if t=s then n else w6 L t:=by
 unfold w6;rw[q3d,q4y];by_cases h:t=s
 .subst h
  simp
 .rw[if_neg h]
  have:decide (s=t)=false:=decide_eq_false λe=>h e.symm;rw[this,Xm,if_neg h]
def renS(L:List (Int×Int))(S:List (Int×List Fld)):List (Int×List Fld):=S.map λs=>(w6 L s.1,s.2)
theorem zj1(L:List (Int×Int))(S:List (Int×List Fld)):(renS L S).map Zj=S.map Zj:=by
 unfold renS;rw[Zz];rfl
theorem qgi(L:List (Int×Int))(a b:List (Int×List Fld)):renS L (a++b)=renS L a++renS L b:=by simp[renS]
theorem zj2{L:List (Int×Int)}(h0:w6 L 0=0)(a:List (Int×List Fld)):w6 L (qhu a)=qhu (renS L a):=by
 rcases Zm a with rfl |⟨a',x,rfl⟩
 .exact h0
 .rw[Zn,qm5,qgi]
  exact(qm5 (renS L a') (w6 L x.1,x.2)).symm
theorem qix{l:qu}{a b:List (Int×List Fld)}{id:Int}{f:List Fld}(hs:stzF l.ents=a++(id,f)::b)(hd:∀s∈a,s.1≠id):qd1 l id=f:=by
 unfold qd1;rw[hs,List.find?_append,Xp.2 (by simpa using hd)];simp
theorem qsx{id:Int}{f:List Fld}{b:List (Int×List Fld)}:∀(a:List (Int×List Fld))(p:Int),(∀s∈a,s.1≠id)->yi id p (a++(id,f)::b)=(a.getLast?.map Xs).getD p
 | [],p,_=>by simp[yi]
 |s::a,p,h=>by
  rw[Zb,yi,if_neg (h s Sx),qsx a s.1 λy hy=>h y (by simp[hy])]
  cases a with
  |nil=>rfl
  |cons y r=>
   rw[List.getLast?_cons_cons]
   cases hq:(y::r).getLast? with
   |none=>simp at hq
   |some z=>rfl
theorem qjm{l:qu}{a b:List (Int×List Fld)}{id:Int}{f:List Fld}(h:GN l)(hs:stzF l.ents=a++(id,f)::b):0<id∧(∀s∈a,s.1≠id)∧∀s∈b,s.1≠id:=by
 have dp:=h.nd;rw[<-zax,hs,List.map_append,Zv]at dp;obtain⟨_,h2,h3⟩:=Zw.1 dp;obtain⟨h4,_⟩:=Xf.1 h2;have hm:id∈idsL l.ents:=by rw[<-zax,hs];simp
 refine⟨(qoz.1 hm).1,λs hs hh=>h3 s.1 (Qo.2 ⟨s,hs,rfl⟩) id Sx hh,λs hs hh=>h4 ?_⟩;exact Qo.2 ⟨s,hs,hh⟩
def vf(b:List qp)(l:qu):qu:=b.foldl (λl x=>(oneF l x).2.2) l
def qel:List qp->qu->Prop
 | [],_=>True
 |x::r,l=>(oneF l x).2.1=.no∧qel r (oneF l x).2.2
theorem qva:∀(b:List qp)(k:Nat)(l:qu)(ids:List Int),(kg k b l ids).1=.no->qel b l∧(kg k b l ids).2.1=vf b l
 | [],_,_,_,_=>⟨trivial,rfl⟩
 |x::r,k,l,ids,h=>by
  rw[kg]at h⊢;by_cases ho:(oneF l x).2.1=.no
  .rw[if_pos ho]at h⊢
   obtain⟨h1,h2⟩:=qva r _ _ _ h;exact⟨⟨ho,h1⟩,h2⟩
  .rw[if_neg ho]at h
   simp at h
theorem qx4:∀(b:List qp)(x:qp)(l:qu),qel (b++[x]) l->qel b l∧(oneF (vf b l) x).2.1=.no
 | [],x,l,h=>⟨trivial,h.1⟩
 |y::b,x,l,h=>by
  obtain⟨h1,h2⟩:=qx4 b x (oneF l y).2.2 h.2;exact⟨⟨h.1,h1⟩,h2⟩
theorem qx2:∀(b:List qp)(x:qp)(l:qu),ya (b++[x]) l=ya b l++[qa5 (vf b l) x]
 | [],x,l=>rfl
 |y::b,x,l=>by
  rw[Zb,ya,qx2 b x];rfl
theorem qvl(b:List qp)(x:qp)(l:qu):vf (b++[x]) l=(oneF (vf b l) x).2.2:=by simp[vf]
theorem qt2:∀(b:List qp)(l:qu),GN l->GN (vf b l)
 | [],_,h=>h
 |x::r,l,h=>qt2 r _ (qff h x)
theorem q25:∀(b:List qp)(l:qu),GL l->GL (vf b l)
 | [],_,h=>h
 |x::r,l,h=>q25 r _ (qy1 h x)
theorem q9k{l:qu}(h:GL l):cntI (jv l)=(stzF l.ents).length:=by
 have key:∀es:List EntV,(∀e∈es,0<e.id↔e.x.kind=3)->cntI (es.map λe=>e.x)=(stzF es).length:=by
  intro es
  induction es with
  |nil=>intro _;rfl
  |cons e r ih=>
   intro he;have h1:=he e Sx;rw[Zv,x9,ih λx hx=>he x (by simp[hx]),qc0];by_cases hk:e.x.kind=3
   .rw[if_pos hk,if_pos (h1.2 hk),Qh];omega
   .rw[if_neg hk,if_neg (λq=>hk (h1.1 q))];omega
 exact key l.ents λe he=>(h.ok e he).2
theorem zle(l:qu)(hg:GN l)(hl:GL l):∀(n:Nat)(b:List qp),b.length=n->qel b l->∀(M:qu)(L:List (Int×Int))(k:Nat)(ids:List Int),GN M->GL M->stzF M.ents=renS L (stzF (vf b l).ents)->w6 L 0=0->
  (kg k (yp (ya b l).reverse L M.next) M ids).1=.no∧(stzF (kg k (yp (ya b l).reverse L M.next) M ids).2.1.ents).map Zj=(stzF l.ents).map Zj:=by
 intro n
 induction n with
 |zero=>
  intro b hb ht M L k ids hM hG hs h0;have:b=[]:=List.length_eq_zero_iff.1 hb;subst this;refine⟨rfl,?_⟩
  show(stzF M.ents).map Zj=_
  rw[hs,zj1]
  rfl
 |succ n ih=>
  intro b hb ht M L k ids hM hG hs h0
  obtain⟨b',x,rfl⟩:∃b' x,b=b'++[x]:=by
   rcases Zm b with rfl |⟨b',x,rfl⟩
   .simp at hb
   .exact⟨b',x,Zn⟩
  obtain⟨tj,ht2⟩:=qx4 b' x l ht;have hP:=qt2 b' l hg;have hQ:=q25 b' l hl;have fx:b'.length=n:=by simpa using hb
  rw[qvl]at hs;rw[qx2,List.reverse_append,List.reverse_singleton,List.singleton_append];generalize hPe:vf b' l=P at *;rcases qmn hP ht2 with⟨hk,hi,a,c,f,e1,e2⟩|⟨hk,hi,a,c,f,e1,e2⟩|⟨br,s4,hi,a,c,e1,e2⟩
  .obtain⟨cr,ha,hc⟩:=qjm hP e1
   have e8:qa5 P x=⟨1,x.id,f,qd8 P x.id⟩:=by
    unfold qa5;rw[hi,if_neg Om,qix e1 ha,hk]
   rw[e8,yp,if_pos rfl,kg];rw[e2,qgi]at hs;have hf:z4 f=.no:=qmt hQ f (by rw[e1];simp);obtain⟨g1,g2,g3⟩:=q6v (fs:=f) hM hs hf;have ho:oneF M ⟨1,w6 L x.id,f⟩=(0,xg M (w6 L x.id) f):=by simp[oneF]
   rw[ho];simp only;rw[if_pos g1,<-g3];refine ih b' fx tj _ L _ _ (q6u hM _ _) (q6t hG _ _) ?_ h0;rw[g2,hPe,e1,qgi];rfl
  .obtain⟨cr,ha,hc⟩:=qjm hP e1
   have hah:qd8 P x.id=qhu a:=by
    unfold qd8;rw[e1,qsx a 0 ha];rfl
   have e8:qa5 P x=⟨2,x.id,f,qhu a⟩:=by
    unfold qa5;rw[hi,if_neg Om,qix e1 ha,hk,hah]
   rw[e8,yp,if_neg Sx,if_pos rfl,kg];rw[e2,qgi]at hs;have hf:z4 f=.no:=qmt hQ f (by rw[e1];simp);have ho:oneF M ⟨3,w6 L (qhu a),f⟩=insF M (w6 L (qhu a)) f:=by simp[oneF]
   simp only;rw[ho];rcases q94 (fs:=f) hM hs (zj2 h0 a) hf with⟨g,_⟩|⟨g1,g2,g3,g4⟩
   .have q1:=hQ.le
    have q2:=hG.mn;rw[q9k hQ,e1]at q1;rw[q9k hG,hs]at q2;simp[renS]at q1 q2;omega
   .rw[g1,if_pos rfl,<-g3]
    have hren:∀S:List (Int×List Fld),(∀s∈S,s.1≠x.id)->renS (setM x.id M.next L) S=renS L S:=λS hS=>by
     unfold renS;refine List.map_congr_left λs hs=>?_;rw[qmk,if_neg (hS s hs)]
    refine ih b' fx tj _ (setM x.id M.next L) _ _ (q93 hM _ _) (q92 hG _ _) ?_ (by rw[qmk,if_neg Om];exact h0);rw[g2,hPe,e1,qgi,hren a ha]
    show _=_++(w6 (setM x.id M.next L) x.id,f)::renS (setM x.id M.next L) c
    rw[hren c hc,qmk,if_pos rfl]
  .have hgP:=qff hP x
   obtain⟨cr,ha,hc⟩:=qjm hgP e2
   have e8:qa5 P x=⟨x.kind,P.next,qd1 P x.id,qd8 P x.id⟩:=by
    unfold qa5;rw[hi,if_pos cr]
   rw[e8,yp,if_neg br,if_neg s4,kg];rw[e2,qgi]at hs;obtain⟨g1,g2,g3⟩:=q9q hM hs;have ho:oneF M ⟨2,w6 L P.next,[]⟩=(0,delF M (w6 L P.next)):=by simp[oneF]
   simp only;rw[ho];simp only;rw[if_pos g1,<-g3];refine ih b' fx tj _ L _ _ (q9p hM _) (q9o hG _) ?_ h0;rw[g2,hPe,e1,qgi];rfl
theorem qz2:∀(ss:List qlt)(L:List (Int×Int))(nx:Int),(∀s∈ss,s.kind=1∨s.kind=2->z4 s.was=.no)->∀x∈yp ss L nx,gErr x=.no
 | [],_,_,_,x,hx=>by simp[yp]at hx
 |s::r,L,nx,h,x,hx=>by
  have hr:=λL nx=>qz2 r L nx λy hy=>h y (by simp[hy]);have hs:=h s Sx;rw[yp]at hx;split at hx
  .rename_i h1
   rcases Qe.1 hx with rfl|hx
   .simpa[gErr]using hs (.inl h1)
   .exact hr _ _ x hx
  .split at hx
   .rename_i h2
    rcases Qe.1 hx with rfl|hx
    .simpa[gErr]using hs (.inr h2)
    .exact hr _ _ x hx
   .rcases Qe.1 hx with rfl|hx
    .simp[gErr]
    .exact hr _ _ x hx
theorem qod:∀(ss:List qlt)(L:List (Int×Int))(nx:Int),(yp ss L nx).length=ss.length
 | [],_,_=>rfl
 |s::r,L,nx=>by
  rw[yp];split
  .simp[qod r]
  .split <;>simp[qod r]
theorem qjr:∀(b:List qp)(l:qu),(ya b l).length=b.length
 | [],_=>rfl
 |x::r,l=>by simp[ya,qjr r]
theorem qrz:∀(b:List qp)(l:qu),GN l->GL l->qel b l->∀s∈ya b l,s.kind=1∨s.kind=2->z4 s.was=.no
 | [],_,_,_,_,s,hs,_=>by simp[ya]at hs
 |x::r,l,hn,hl,ht,s,hs,hk=>by
  rw[ya]at hs;rcases Qe.1 hs with rfl|hs
  .have hk:x.kind=1∨x.kind=2:=hk
   show z4 (qd1 l x.id)=.no
   rcases qmn hn ht.1 with⟨_,_,a,c,f,e1,_⟩|⟨_,_,a,c,f,e1,_⟩|⟨h1,h2,_⟩
   .rw[qix e1 (qjm hn e1).2.1]
    exact qmt hl f (by rw[e1];simp)
   .rw[qix e1 (qjm hn e1).2.1]
    exact qmt hl f (by rw[e1];simp)
   .omega
  .exact qrz r _ (qff hn x) (qy1 hl x) ht.2 s hs hk
def qbo(l:qu)(b:List qp):List qp:=yp (ya b l).reverse [] (doF l b).2.1.next
theorem znb{l:qu}{b:List qp}(hn:GN l)(hl:GL l)(h:(doF l b).1=.no):
  eErr (qbo l b)=.no∧(doF (doF l b).2.1 (qbo l b)).1=.no∧(stzF (doF (doF l b).2.1 (qbo l b)).2.1.ents).map Zj=(stzF l.ents).map Zj:=by
 have he:eErr b=.no:=Classical.byContradiction λhe=>by
  unfold doF at h;rw[if_neg he]at h;exact he h
 have hd:doF l b=kg 0 b l []:=by unfold doF;rw[if_pos he]
 rw[hd]at h;obtain⟨ht,ha⟩:=qva b 0 l [] h
 have d5:¬(b.length<1∨40<b.length):=λhh=>by
  unfold eErr at he;rw[if_pos hh]at he;simp at he
 have hb:eErr (qbo l b)=.no:=by
  unfold eErr
  have mt:(qbo l b).length=b.length:=by
   unfold qbo;rw[qod,Zt,qjr]
  rw[mt,if_neg d5];refine qwj _ 0 (qz2 _ _ _ λs hs=>qrz b l hn hl ht s (by simpa using hs))
 have:=zle l hn hl b.length b rfl ht (doF l b).2.1 [] 0 [] (qqr hn b) (q38 hl b) (by rw[hd,ha];simp[renS,w6]) (by simp[w6])
 have e:doF (doF l b).2.1 (qbo l b)=kg 0 (qbo l b) (doF l b).2.1 []:=by
  show(if eErr (qbo l b)=.no then kg 0 (qbo l b) (doF l b).2.1 []else _)=_
  rw[if_pos hb]
 rw[e];exact⟨hb,this⟩
end Go.Pl
namespace Go.Pl
open Go Go.Proofs Go.Proofs.YtihlchbgjdkmpaaGreatDoor
def qdj(b:j5)(n:Nat):qc:=wa b.gen++(b.base++vj (b.batches.take n))
def qfr(b:j5):List Int:=((wa b.gen).length+b.base.length:Nat)::b.ends
theorem zf7(x y:List (List qp)):vj (x++y)=vj x++vj y:=by simp[vj]
theorem zbp{text:qc}{b:j5}(h:xy text b)(n:Nat):text=qdj b n++(vj (b.batches.drop n)++b.tail):=by
 have e:=congrArg vj (Qp n b.batches);rw[zf7]at e;unfold qdj;rw[h.txt]
 conv=>lhs;rw[<-e]
 simp
theorem q7w{text:qc}{b:j5}(h:xy text b)(n:Nat):text.take (qdj b n).length=qdj b n:=by
 have:=zbp h n
 conv=>lhs;rw[this]
 exact Xi
theorem q4h:∀(bs:List (List qp))(a:Int)(n:Nat),n<=bs.length->(a::qap a bs)[n]?=some (a+(vj (bs.take n)).length)
 |bs,a,0,_=>by simp[vj]
 | [],a,n+1,h=>by simp at h
 |x::r,a,n+1,h=>by
  rw[Qf,qap,q4h r _ n (by simpa using h),Xo,qa4];simp;omega
theorem qpw{text:qc}{b:j5}(h:xy text b){n:Nat}(hn:n<=b.batches.length):(qfr b)[n]?=some ((qdj b n).length:Int):=by
 unfold qfr;rw[h.ends];have:=q4h b.batches (((wa b.gen).length+b.base.length:Nat):Int) n hn;rw[show(((wa b.gen).length+b.base.length:Nat):Int)=((wa b.gen).length:Int)+(b.base.length:Int)by omega]at this⊢;rw[this];unfold qdj;simp;omega
theorem qf8(x:List qp)(q:List (List qp))(r:RunV):z0 (x::q) r=if(doF r.l x).1=.no then z0 q (qaf r x)else(.at' r.given.length 10,r):=by rw[z0]
theorem qrl:∀(a b:List (List qp))(r r':RunV),z0 (a++b) r=(.no,r')->∃r1,z0 a r=(.no,r1)∧z0 b r1=(.no,r')
 | [],b,r,r',h=>⟨r,rfl,h⟩
 |x::a,b,r,r',h=>by
  rw[Zb,qf8]at h;rw[qf8];split at h
  .rename_i hx
   obtain⟨r1,h1,h2⟩:=qrl a b _ r' h;exact⟨r1,by rw[if_pos hx];exact h1,h2⟩
  .simp at h
theorem qrk{base:qc}{a b:List (List qp)}{r:RunV}(h:z8 base (a++b)=(.no,r)):∃r1,z8 base a=(.no,r1)∧z0 b r1=(.no,r):=by
 unfold z8 at h⊢;split at h
 .rename_i hp
  rw[if_pos hp];exact qrl a b _ _ h
 .rename_i hp
  simp only[Qj]at h;exact absurd h.1 hp
theorem qto{base:qc}{a:List (List qp)}{r:RunV}(h:z8 base a=(.no,r)):jw base=.no:=by
 unfold z8 at h;split at h
 .assumption
 .rename_i hp
  simp only[Qj]at h;exact absurd h.1 hp
theorem q6b{x:List qp}{r r':RunV}(h:z0 [x] r=(.no,r')):(doF r.l x).1=.no∧r'=qaf r x:=by
 rw[qf8]at h;split at h
 .rename_i hx
  simp only[z0,Qj,true_and]at h;exact⟨hx,h.symm⟩
 .simp at h
def runI(a:Int)(n:Nat):List Int:=(Xy n).map λi:Nat=>a+(i:Int)
theorem zgk(a:Int)(n:Nat):runI a (n+1)=runI a n++[a+(n:Int)]:=by simp[runI,List.range_succ]
theorem qmm{l:qu}{x:qp}(hn:GN l)(h:(oneF l x).2.1=.no):((oneF l x).1=0∧(oneF l x).2.2.next=l.next)∨((oneF l x).1=l.next∧(oneF l x).2.2.next=l.next+1):=by
 unfold oneF at h⊢;split
 .left
  unfold xg qh0;split
  .exact⟨rfl,rfl⟩
  .split
   .split <;>exact⟨rfl,rfl⟩
   .exact⟨rfl,rfl⟩
 .rename_i h1
  rw[if_neg h1]at h;split
  .left
   unfold delF delL;split <;>exact⟨rfl,rfl⟩
  .rename_i h2
   rw[if_neg h2]at h;unfold insF at h⊢;split
   .rename_i h3
    rw[if_pos h3]at h;simp at h
   .rename_i h3
    rw[if_neg h3]at h;split
    .rename_i h4
     rw[if_pos h4]at h;split
     .rename_i h5
      rw[if_pos h5]at h;simp at h
     .exact .inr ⟨rfl,rfl⟩
    .rename_i h4
     rw[if_neg h4]at h;exact absurd h h4
theorem qoe:∀(b:List qp)(k:Nat)(l:qu)(a:Int)(n:Nat),GN l->a+(n:Int)=l.next->(kg k b l (runI a n)).1=.no->∃m,(kg k b l (runI a n)).2.2=runI a m
 | [],k,l,a,n,hg,hn,h=>⟨n,rfl⟩
 |x::r,k,l,a,n,hg,hn,h=>by
  unfold kg at h⊢;by_cases ho:(oneF l x).2.1=.no
  .rw[if_pos ho]at h⊢
   have hx:=hg.nx;rcases qmm hg ho with⟨e1,e2⟩|⟨e1,e2⟩
   .rw[if_neg Om]at h⊢
    exact qoe r _ _ a n (qff hg x) Om h
   .rw[if_pos Om,e1,<-hn,<-zgk]at h⊢
    exact qoe r _ _ a (n+1) (qff hg x) Om h
  .rw[if_neg ho]at h
   simp at h
theorem zlw{l:qu}{b:List qp}(hg:GN l)(h:(doF l b).1=.no):∃m,(doF l b).2.2=runI l.next m:=by
 unfold doF at h⊢;by_cases he:eErr b=.no
 .rw[if_pos he]at h⊢
  exact qoe b 0 l l.next 0 hg Sx h
 .rw[if_neg he]at h
  exact absurd h he
theorem qhx:∀(bs:List (List qp))(r r':RunV),GN r.l->z0 bs r=(.no,r')->∃gs,r'.given=r.given++gs∧gs.length=bs.length∧∀g∈gs,∃a m,g=runI a m
 | [],r,r',hg,h=>by
  simp only[z0,Qj,true_and]at h;subst h
  exact⟨[],Sx,rfl,Sx⟩
 |x::q,r,r',hg,h=>by
  rw[qf8]at h;split at h
  .rename_i hx
   obtain⟨gs,h1,h2,h3⟩:=qhx q _ r' (qqr hg x) h;obtain⟨m,hm⟩:=zlw hg hx;refine⟨(doF r.l x).2.2::gs,?_,by simp[h2],λg hh=>?_⟩
   .rw[h1]
    simp[qaf]
   .rcases Qe.1 hh with rfl|hh
    .exact⟨_,_,hm⟩
    .exact h3 g hh
  .simp at h
theorem qez{base:qc}{bs:List (List qp)}{r:RunV}(h:z8 base bs=(.no,r)):r.given.length=bs.length∧∀g∈r.given,∃a m,g=runI a m:=by
 have hp:=qto h;unfold z8 at h;rw[if_pos hp]at h;obtain⟨gs,h1,h2,h3⟩:=qhx bs _ r (q5v _) h;simp only[Xg]at h1;rw[h1];exact⟨h2,h3⟩
theorem zcc{base:qc}{bs:List (List qp)}{r r1:RunV}{i:Nat}(h:z8 base bs=(.no,r))(h1:z8 base (bs.take (i+1))=(.no,r1)):r1.given[i]?=r.given[i]?:=by
 rw[<-Qp (i+1) bs]at h;obtain⟨r2,h2,h3⟩:=qrk h;rw[h1]at h2;simp only[Qj,true_and]at h2;subst h2;have hn:GN r1.l:=by have:=q6a base (bs.take (i+1));rw[h1]at this;exact this
 obtain⟨gs,e1,e2,_⟩:=qhx _ _ _ hn h3;rw[e1];have hl:=(qez h1).1;by_cases hi:i<r1.given.length
 .rw[Qy hi]
 .rw[Xa]at hl
  rw[List.length_drop]at e2;rw[Xj Om,Xj (by rw[Qg];omega)]
theorem qoc(C:Int):∀(ss:List qlt)(L:List (Int×Int))(nx:Int),(∀s∈ss,0<=s.id∧s.id<=C∧0<=s.ahead∧s.ahead<=C)->(∀t,0<=t->t<=C->0<=w6 L t∧w6 L t<=C)->0<=nx->nx+(ss.length:Int)<=C->∀x∈yp ss L nx,0<=x.id∧x.id<=C
 | [],L,nx,_,_,_,_,x,hx=>by simp[yp]at hx
 |s::r,L,nx,hs,hL,h0,hC,x,hx=>by
  obtain⟨a1,a2,a3,a4⟩:=hs s Sx;have hr:=λy hy=>hs y (Zq _ hy);simp only[Qh]at hC;rw[yp]at hx;split at hx
  .rcases Qe.1 hx with rfl|hx
   .exact hL _ a1 a2
   .exact qoc C r L nx hr hL h0 Om x hx
  .split at hx
   .rcases Qe.1 hx with rfl|hx
    .exact hL _ a3 a4
    .refine qoc C r _ (nx+1) hr (λt h1 h2=>?_) Om Om x hx
     rw[qmk];split
     .omega
     .exact hL t h1 h2
   .rcases Qe.1 hx with rfl|hx
    .exact hL _ a1 a2
    .exact qoc C r L nx hr hL h0 Om x hx
theorem qz1:∀(ss:List qlt)(L:List (Int×Int))(nx:Int),∀x∈yp ss L nx,x.fields=[]∨∃s∈ss,(s.kind=1∨s.kind=2)∧x.fields=s.was
 | [],L,nx,x,hx=>by simp[yp]at hx
 |s::r,L,nx,x,hx=>by
  have hr:∀L nx,x∈yp r L nx->x.fields=[]∨∃y∈s::r,(y.kind=1∨y.kind=2)∧x.fields=y.was:=λL nx hx=>by
   rcases qz1 r L nx x hx with h|⟨y,hy,h⟩
   .exact .inl h
   .exact .inr ⟨y,Zq _ hy,h⟩
  rw[yp]at hx;split at hx
  .rcases Qe.1 hx with rfl|hx
   .exact .inr ⟨s,Sx,.inl (by assumption),rfl⟩
   .exact hr _ _ hx
  .split at hx
   .rcases Qe.1 hx with rfl|hx
    .exact .inr ⟨s,Sx,.inr (by assumption),rfl⟩
    .exact hr _ _ hx
   .rcases Qe.1 hx with rfl|hx
    .exact .inl rfl
    .exact hr _ _ hx
theorem q29(C id:Int):∀(S:List (Int×List Fld))(p:Int),0<=p->p<=C->(∀s∈S,0<=s.1∧s.1<=C)->0<=yi id p S∧yi id p S<=C
 | [],p,h0,h1,_=>by rw[yi];omega
 |s::r,p,h0,h1,h=>by
  rw[yi];split
  .exact⟨h0,h1⟩
  .obtain⟨a,b⟩:=h s Sx
   exact q29 C id r s.1 a b λy hy=>h y (Zq _ hy)
theorem zg2{l:qu}(h:GN l):∀s∈stzF l.ents,0<=s.1∧s.1<=l.next:=λs hs=>by
 obtain⟨e,he,rfl⟩:=Qo.1 hs;obtain⟨h1,h2⟩:=Zp.1 he;have:=of_decide_eq_true h2;have:=h.lt e h1;simp only;omega
theorem qvk:∀(b:List qp)(l:qu),GN l->qel b l->l.next<=(vf b l).next∧(vf b l).next<=l.next+(b.length:Int)
 | [],l,_,_=>by simp[vf]
 |x::r,l,hg,ht=>by
  have h1:=qvk r _ (qff hg x) ht.2;have e:vf (x::r) l=vf r (oneF l x).2.2:=rfl;rw[e,Qh];rcases qmm hg ht.1 with⟨_,h2⟩|⟨_,h2⟩<;>(rw[h2]at h1;omega)
theorem q1w(C:Int):∀(b:List qp)(l:qu),GN l->qel b l->(vf b l).next<=C->∀s∈ya b l,0<=s.id∧s.id<=C∧0<=s.ahead∧s.ahead<=C
 | [],l,_,_,_,s,hs=>by simp[ya]at hs
 |x::r,l,hg,ht,hC,s,hs=>by
  have e:vf (x::r) l=vf r (oneF l x).2.2:=rfl;rw[e]at hC;have hn:=qvk r _ (qff hg x) ht.2;have hx:=hg.nx;have d7:l.next<=C:=by rcases qmm hg ht.1 with⟨_,h2⟩|⟨_,h2⟩<;>(rw[h2]at hn;omega)
  rw[ya]at hs;rcases Qe.1 hs with rfl|hs
  .have ha:=q29 C x.id (stzF l.ents) 0 Om Om λs hs=>by have:=zg2 hg s hs;omega
   have cr:0<=(qa5 l x).id∧(qa5 l x).id<=C:=by
    unfold qa5
    have key:∀a b f,stzF l.ents=a++(x.id,f)::b->0<=x.id∧x.id<=C:=λa b f h=>by
     have:=zg2 hg (x.id,f) (by rw[h];simp);simp only at this;omega
    rcases qmn hg ht.1 with⟨_,hi,a,c,f,e1,_⟩|⟨_,hi,a,c,f,e1,_⟩|⟨_,_,hi,_⟩
    .simp only
     rw[hi,if_neg Om];exact key a c f e1
    .simp only
     rw[hi,if_neg Om];exact key a c f e1
    .simp only
     rw[hi,if_pos Om];omega
   exact⟨cr.1,cr.2,ha.1,ha.2⟩
  .exact q1w C r _ (qff hg x) ht.2 hC s hs
theorem qvb{l:qu}{b:List qp}(h:(doF l b).1=.no):eErr b=.no∧qel b l∧(doF l b).2.1=vf b l:=by
 unfold doF at h⊢;by_cases he:eErr b=.no
 .rw[if_pos he]at h⊢
  exact⟨he,qva b 0 l [] h⟩
 .rw[if_neg he]at h
  exact absurd h he
theorem znl{l:qu}{b:List qp}(hn:GN l)(hl:GL l)(h:(doF l b).1=.no)(hx:(doF l b).2.1.next<=1000000):∀x∈qbo l b,EdB x:=λx tx=>by
 obtain⟨he,ht,ha⟩:=qvb h
 have hb:b.length<=40:=by
  unfold eErr at he;split at he
  .simp at he
  .omega
 have hg:=qqr hn b;have hg1:=hg.nx;unfold qbo at tx;have h1:=qoc 2000000 (ya b l).reverse [] (doF l b).2.1.next (λs hs=>q1w 2000000 b l hn ht (by rw[<-ha];omega) s (by simpa using hs)) (λt h1 h2=>by simp[w6];omega) Om (by rw[Zt,qjr];omega) x tx
 have h2:x.fields=[]∨z4 x.fields=.no:=by
  rcases qz1 _ _ _ x tx with h|⟨s,hs,hk,e⟩
  .exact .inl h
  .exact .inr (by rw[e];exact qrz b l hn hl ht s (by simpa using hs) hk)
 have hG:GF x.fields:=by
  rcases h2 with h|h
  .rw[h];exact⟨Sx,Sx⟩
  .exact⟨(qcm h).2.1,(qcm h).2.2⟩
 exact q4c (k:=x.kind) (n:=x.id) (fs:=x.fields) Om Om hG
structure qbn where
 rep:Int
 del:Int
 ins:Int
 first:Int
 last:Int
 bytes:Int
def entF(b:List qp)(g:List Int)(n:Int):qbn:=
 ⟨(b.countP λx=>decide (x.kind=1):Nat),(b.countP λx=>decide (x.kind=2):Nat),(b.countP λx=> !decide (x.kind=1)&& !decide (x.kind=2):Nat),g.headD 0,g.getLastD 0,n⟩
def logL:List (List qp)->List (List Int)->List qbn
 |b::bs,g::gs=>entF b g (recE b).length::logL bs gs
 |_,_=>[]
theorem q5c:∀(bs:List (List qp))(gs:List (List Int))(i:Nat)(b:List qp)(g:List Int),bs[i]?=some b->gs[i]?=some g->(logL bs gs)[i]?=some (entF b g (recE b).length)
 | [],gs,i,b,g,h,_=>by simp at h
 |x::bs,[],i,b,g,_,h=>by simp at h
 |x::bs,y::gs,0,b,g,h1,h2=>by
  simp only[Qm,Qd]at h1 h2;subst h1;subst h2
  rfl
 |x::bs,y::gs,i+1,b,g,h1,h2=>by
  simp only[Qf]at h1 h2;rw[logL,Qf];exact q5c bs gs i b g h1 h2
theorem qld:∀(bs:List (List qp))(gs:List (List Int)),gs.length=bs.length->(logL bs gs).length=bs.length
 | [],gs,_=>by cases gs<;>rfl
 |x::bs,[],h=>by simp at h
 |x::bs,y::gs,h=>by rw[logL,Qh,qld bs gs (by simpa using h),Qh]
theorem zdg{text:qc}{b:j5}(h:xy text b){i:Nat}{x:List qp}(hx:b.batches[i]?=some x):∃p:Nat,(qfr b)[i]?=some (p:Int)∧b.ends[i]?=some ((p:Int)+(recE x).length):=by
 have hi:=(Qr.1 hx).1;refine⟨(qdj b i).length,qpw h Om,?_⟩;have h2:=qpw h (n:=i+1) Om;have e:(qfr b)[i+1]?=b.ends[i]?:=by unfold qfr;rw[Qf]
 rw[e]at h2;rw[h2];have ht:b.batches.take (i+1)=b.batches.take i++[x]:=by rw[Qq,hx];rfl
 unfold qdj;rw[ht,qpf];simp;omega
def runT(text:qc):RunV:=(z8 (jj text).2.base (jj text).2.batches).2
def logH(text:qc):ErrV×List qbn:=if(jx text).1=.no then(.no,logL (jx text).2.1.batches (runT text).given)else((jx text).1,[])
def qcc(text:qc):ErrV×List qp:=
 if(jx text).1=.no then(match(jx text).2.1.batches.getLast? with
  |none=>(.num 7,[])
  |some x=>(.no,qbo (qec (jx text).2.1 ((jx text).2.1.batches.length-1:Nat)).2.l x))else((jx text).1,[])
def qhb(text:qc):ErrV×qc:=if(qcc text).1=.no then appF text (qcc text).2 else((qcc text).1,[])
theorem qsm{text:qc}{b:j5}{r:RunV}(hT:xy text b)(hp:z8 b.base b.batches=(.no,r)):runT text=r:=by
 unfold runT;rw[q9h hT];simp only;rw[hp]
theorem q7g{text:qc}{b:j5}{r:RunV}{bs:List (List qp)}{x:List qp}(hT:xy text b)(hb:b.batches=bs++[x])(hp:z8 b.base b.batches=(.no,r)):
  ∃r1,z8 b.base bs=(.no,r1)∧(doF r1.l x).1=.no∧r.l=(doF r1.l x).2.1∧qcc text=(.no,qbo r1.l x):=by
 have h:=hp;rw[hb]at h;obtain⟨r1,h1,h2⟩:=qrk h;obtain⟨h3,rfl⟩:=q6b h2;refine⟨r1,h1,h3,rfl,?_⟩;unfold qcc;rw[qrs hT hp];simp only;have e:b.batches.getLast?=some x:=by rw[hb];simp
 rw[if_pos trivial,e];simp only;have hl:b.batches.length-1=bs.length:=by rw[hb];simp
 have ht:b.batches.take bs.length=bs:=by rw[hb];simp
 unfold qec;rw[if_neg (by rw[hl,hb];simp;omega),hl];simp only[Zd];rw[ht,h1]
theorem qzq(id:Int):∀(S:List (Int×List Fld))(k:Nat)(p:Int),
  (qi0 id k S= -1∧yi id p S=0)∨(qi0 id k S=(k:Int)∧yi id p S=p)∨∃(i:Nat)(s:Int×List Fld),S[i]?=some s∧qi0 id k S=((k+(i+1):Nat):Int)∧yi id p S=s.1
 | [],k,p=>.inl ⟨by rw[qi0],by rw[yi]⟩
 |s::r,k,p=>by
  rw[qi0,yi];by_cases h:s.1=id
  .rw[if_pos h,if_pos h]
   exact .inr (.inl ⟨rfl,rfl⟩)
  .rw[if_neg h,if_neg h]
   rcases qzq id r (k+1) s.1 with⟨h1,h2⟩|⟨h1,h2⟩|⟨i,x,h0,h1,h2⟩
   .exact .inl ⟨h1,h2⟩
   .exact .inr (.inr ⟨0,s,rfl,by rw[h1],h2⟩)
   .exact .inr (.inr ⟨i+1,x,by simpa using h0,by rw[h1];congr 1;omega,h2⟩)
theorem q7m(l:qu)(id:Int):(qlg l id<=0∧qd8 l id=0)∨∃(i:Nat)(s:Int×List Fld),qlg l id=((i+1:Nat):Int)∧(stzF l.ents)[i]?=some s∧qd8 l id=s.1:=by
 unfold qlg qd8;rcases qzq id (stzF l.ents) 0 0 with⟨h1,h2⟩|⟨h1,h2⟩|⟨i,s,h0,h1,h2⟩
 .exact .inl ⟨Om,h2⟩
 .exact .inl ⟨Om,h2⟩
 .exact .inr ⟨i,s,by rw[h1];congr 1;omega,h0,h2⟩
theorem q9f{id:Int}(h:1<=id):∀(es:List EntV)(k:Nat),(xc id k es= -1∧(stzF es).find? (λs=>decide (s.1=id))=none)∨
  ∃(i:Nat)(e:EntV),es[i]?=some e∧xc id k es=((k+i:Nat):Int)∧(stzF es).find? (λs=>decide (s.1=id))=some (id,e.x.fields)
 | [],k=>.inl ⟨by rw[xc],rfl⟩
 |e::r,k=>by
  rw[xc,qc0];by_cases he:e.id=id
  .rw[if_pos he,if_pos Om]
   exact .inr ⟨0,e,rfl,rfl,by rw[List.find?_cons_of_pos (by simp[he]),he]⟩
  .rw[if_neg he]
   have hr:=q9f h r (k+1)
   have key:(if 0<e.id then(e.id,e.x.fields)::stzF r else stzF r).find? (λs=>decide (s.1=id))=(stzF r).find? (λs=>decide (s.1=id)):=by
    split
    .rw[List.find?_cons_of_neg (by simp[he])]
    .rfl
   rw[key];rcases hr with⟨h1,h2⟩|⟨i,x,h0,h1,h2⟩
   .exact .inl ⟨h1,h2⟩
   .exact .inr ⟨i+1,x,by simpa using h0,by rw[h1];congr 1;omega,h2⟩
theorem q4x(l:qu)(id:Int):(atF l id<0∧(1<=id->qd1 l id=[]))∨∃(i:Nat)(e:EntV),atF l id=(i:Int)∧l.ents[i]?=some e∧qd1 l id=e.x.fields:=by
 unfold atF qd1;by_cases h:id<1
 .rw[if_pos h]
  exact .inl ⟨Om,λq=>by omega⟩
 .rw[if_neg h]
  rcases q9f (by omega:1<=id) l.ents 0 with⟨h1,h2⟩|⟨i,e,h0,h1,h2⟩
  .exact .inl ⟨Om,λ_=>by rw[h2];rfl⟩
  .exact .inr ⟨i,e,by rw[h1];congr 1;omega,h0,by rw[h2];rfl⟩
theorem qx0:∀(b:List qp)(l:qu)(i:Nat)(x:qp),b[i]?=some x->(ya b l)[i]?=some (qa5 (vf (b.take i) l) x)
 | [],l,i,x,h=>by simp at h
 |y::r,l,0,x,h=>by
  simp only[Qm,Qd]at h;subst h
  rfl
 |y::r,l,i+1,x,h=>by
  rw[Qf]at h;rw[ya,Qf,qx0 r _ i x h];rfl
end Go.Pl
namespace Go.Pl
open Go Go.Proofs Go.Av Go.Proofs.YtihlchbgjdkmpaaGreatDoor
def dupS(key:qc)(pre:List (Int×List Fld))(x:Int×List Fld):Bool:=(qr2 key x.2).any λv=>pre.any λy=>decide (v∈qr2 key y.2)
def zh0(r:qej)(pre:List (Int×List Fld))(x:Int×List Fld):Prop:=x.2.any (badR r)=true∨(r.kind=1∧cntR r x.2=0)∨(r.kind=2∧1<cntR r x.2)∨(r.kind=7∧dupS r.key pre x=true)
instance (r:qej)(pre:List (Int×List Fld))(x:Int×List Fld):Decidable (zh0 r pre x):=inferInstanceAs (Decidable (_∨(_∧_)∨(_∧_)∨(_∧_)))
end Go.Pl
namespace Go.Proofs.YtihlchbgjdkmpaaGreatDoor
open Go Go.Av Go.RowKit Go.Proofs Go.Pl
theorem zj8(b:j5)(st:List AObj)(hB:BkB b):qr E 69 [qbd b] st λr st'=>r=.tu [qla (if(z8 b.base b.batches).1=.no then(z8 b.base b.batches).2.given else []),errA (z8 b.base b.batches).1]∧st'=st:=by
 have hp:=λst=>zas b.base b.batches st hB.base hB.len hB.bat;refine zj [.a (.ag [Iv b.gen,Sv b.base,qbj b.batches,wn b.ends,Sv b.tail])] (kc (qiy _) (ku _)) Tryz.func69 rfl rfl (λ_=>rfl) rfl λS0=>?_;generalize z8 b.base b.batches=p at *;obtain⟨e,r⟩:=p
 cases e
 all_goals apply qf [1]
 repeat' (first|apply Qa|(intro h;try exact cDd)|exact⟨Tryz.call37⟩|refine cpe hp ?_|exact cSd|apply qd [1]|refine exr ?_|refine qg ?_)
end Go.Proofs.YtihlchbgjdkmpaaGreatDoor
namespace Go.Pl
open Go
def i64(n:Int):Prop:= -9223372036854775808<=n∧n<=9223372036854775807
theorem qcs{n:Int}(h:i64 n):(Lib.itoa n).length<=20:=by
 unfold i64 at h;by_cases h0:0<=n
 .obtain⟨k,rfl⟩:∃k:Nat,n=(k:Int):=⟨n.toNat,Om⟩
  have:=qbl k Om;omega
 .unfold Lib.itoa
  rw[if_pos Om]
  have:(Lib.decDigits n.natAbs).length<=19:=by
   rw[Lib.decDigits_length];exact qd2 18 _ Om
  simp;omega
end Go.Pl
namespace Go.Proofs.YtihlchbgjdkmpaaGreatDoor
open Go Go.Av Go.RowKit Go.Proofs Go.Pl
theorem zgv(l:List UInt8)(st:List AObj)(hl:l.length<4294967281):qr E 96 [Sv l,Sv [32]] st λr st'=>r=.sl 1 ((Lib.splitK [32] 0 (Lib.count l [32]) l).map λx=>Sv x) none∧st'=st:=by
 have hd:=Lib.splitB_data ⟨#[32]⟩ 0 (Lib.countB ⟨l.toArray⟩ ⟨#[32]⟩) ⟨l.toArray⟩;have hn:=Lib.splitB_all ⟨#[32]⟩ (by simp[ByteArray.size]) 0 _ ⟨l.toArray⟩ rfl;have hd2:(Lib.splitB ⟨#[32]⟩ 0 (Lib.countB ⟨l.toArray⟩ ⟨#[32]⟩) ⟨l.toArray⟩).map (·.data.toList)=Lib.splitK [32] 0 (Lib.count l [32]) l:=hd;have d5:(Lib.splitK [32] 0 (Lib.count l [32]) l).length=Lib.countB ⟨l.toArray⟩ ⟨#[32]⟩+1:=by rw[<-hd2,Xu,hn]
 refine qh6 (T:=9) (vals:= #[.string ⟨l.toArray⟩,.string ⟨#[32]⟩]) rfl (λe=>by rw[e]at d5;simp at d5) λ_ _ w hL hb=>(Tryz.strings_Split_shaped ⟨l.toArray⟩ ⟨#[32]⟩ w (hL w hb).shaped (by simpa[ByteArray.size]using hl) (by simp[ByteArray.size])).mono λe w' ⟨h1,h2⟩=>?_;refine⟨by rw[h1,d5],?_⟩;rw[h2,<-hd2,Zz]
 try rfl
@[reducible] def qh2 (xs : List qc) : AV := .sl 1 (xs.map fun x => Sv x) none
theorem qt0(xs:List qc):Pure (qh2 xs):=qaz λx hx=>by
 obtain⟨f,_,rfl⟩:=Qo.1 hx;intro y hy;simp only[AV.cells,Qe,Qk,or_false]at hy;subst hy;exact qt _
theorem zko(a b:List qc)(st:List AObj)(ha:a.length<1000000):qr E 27 [qh2 a,qh2 b] st λr st'=>r=Bv (decide (a=b))∧st'=st:=by
 refine zj [.a (qh2 a),.a (qh2 b)] (qt _) Tryz.func27 rfl rfl (λ_=>rfl) rfl λS0=>?_;have hma:(a.map λx=>Sv x).length=a.length:=Sx
 have hmb:(b.map λx=>Sv x).length=b.length:=Sx
 by_cases hl:a.length=b.length
 .apply qf []
  repeat' (first|apply Qa|(intro h;try exact cDd)|exact cSd|apply qd []|refine exr ?_|refine qg ?_)
  refine zx (X:=Nat) (λk=>⟨[(0,.a (qh2 a)),(1,.a (qh2 b)),(12,.i a.length),(13,.i k)],[],0⟩) (λk=>k<=a.length∧a.take k=b.take k) (λk=>a.length-k) 0 ⟨Om,Sx⟩ ?_ ?_
  .skip
   repeat' (first|apply Qa|(intro h;try exact cDd)|exact cSd|apply qd []|refine exr ?_|refine qg ?_)
   all_goals (simp;done)
  .rintro k ⟨hk,ht⟩
   by_cases hc:k<a.length
   .have hga:(a.map λx=>Sv x)[k]?=some (Sv a[k]):=by simp[hc]
    have hgb:(b.map λx=>Sv x)[k]?=some (Sv (b[k]'(by omega))):=by simp[show k<b.length by omega]
    have htn:=qbw (d:=[]) hl hc ht;simp only[List.getD,Qb hc,Qb (show k<b.length by omega),Option.getD_some]at htn;by_cases he:a[k]=b[k]'(by omega)
    .have htm:=htn he
     rw[he]at hga;clear htn he;generalize b[k]'(by omega)=x at *;apply qf [];repeat' (first|apply Qa|(intro h;try exact cDd)|(refine Qc (k) ⟨Om,_,hga,?_⟩)|(refine Qc (k) ⟨Om,_,hgb,?_⟩)|exact absurd rfl (by assumption)|(refine Qc (k+1) ⟨⟨Om,htm⟩,Om,?_⟩)|exact cSd|apply qd []|refine exr ?_|refine qg ?_)
    .have hab:a≠b:=λe=>he (by subst e;rfl)
     rw[decide_eq_false hab];generalize a[k]=x at *;generalize b[k]'(by omega)=y at *;apply qf [];repeat' (first|apply Qa|(intro h;try exact cDd)|(refine Qc (k) ⟨Om,_,hga,?_⟩)|(refine Qc (k) ⟨Om,_,hgb,?_⟩)|exact absurd he (by assumption)|exact cSd|apply qd []|refine exr ?_|refine qg ?_)
   .have hab:a=b:=by
     rw[Qu Om,Qu Om]at ht;exact ht
    rw[decide_eq_true hab];apply qf [];repeat' (first|apply Qa|(intro h;try exact cDd)|exact cSd|apply qd []|refine exr ?_|refine qg ?_)
 .have hab:a≠b:=λe=>hl (by rw[e])
  rw[decide_eq_false hab];apply qf [];repeat' (first|apply Qa|(intro h;try exact cDd)|exact cSd|apply qd []|refine exr ?_|refine qg ?_)
structure ItC2 (g:FuncId) (T:TypeId) (cs:List AV) {ι:Type} (Y:ι->Option ((AV×AV)×ι)) (i0:ι):Prop where
 run:∀(o kb n m:Nat)(I:ι->List AObj->Prop)(D:List AObj->Prop)(S:List AObj),S.length=m->n<=m->I i0 S->
  (∀i S',I i S'->S'[kb]?=some (.cells 0 T cs))->(∀i S' S'',Ext n S' S''->I i S'->I i S'')->
  (∀i x j S'(own:List AObj),I i S'->(∀k y,own[k]?=some y->S'[m+k]?=some y∧qhv (some y))->Y i=some (x,j)->yv E o [x.1,x.2] S' λb S''=>(∀k y,own[k]?=some y->S''[m+k]?=some y)∧(b=true->I j S'')∧(b=false->D S''))->
  qr E g [.yd o,.bx kb 0 0] S λr S'=>(∃i,Y i=none∧I i S')∨D S'
theorem q2b{N:Nat}{Q:Exit->AS->Prop}{s:AS}{f:Operand}{p q:Tmp}{asg body:Code}{S0:List AObj}{kb:Nat}{g:FuncId}{T:TypeId}{cs:List AV}{ι:Type}{Y:ι->Option ((AV×AV)×ι)}{i0:ι}(pj:ItC2 g T cs Y i0)(e8:s.st=S0)(hx:qn N s f=.fn (.func g) [] [.bx kb 0 0])
  (a8:∀vs w,(callFunc g vs).run E.P w=.ok (.enter g vs) w)
  (I:ι->List AObj->Prop) (D:Code->List AObj->Prop) (h0:I i0 S0)
  (hI:∀i S,I i S->S[kb]?=some (.cells 0 T cs))
  (rg:∀i S S',Ext S0.length S S'->I i S->I i S') (sm:∀c S S',Ext S0.length S S'->D c S->D c S')
  (hb:∀F(own:List AObj)rd i x j S,qls F N s.t #[p,q] asg body->I i S->Y i=some (x,j)->S[S0.length]?=some .dfr->S[S0.length+1]?=some (F .ready none)->(∀k y,own[k]?=some y->S[S0.length+2+k]?=some y∧qhv (some y))->
   AWp E (some rd) N asg (only λs1=>s1.st[S0.length+1]?=some (F .ready none)∧s1.df=[]∧AWp E (some rd) N body (zgj S0.length F own (I j) D) ⟨s1.t,s1.st.set (S0.length+1) (F .busy none),[]⟩) ⟨put (put s.t p x.1) q x.2,S,[]⟩)
  (hn:∀i S,Y i=none->I i S->S[S0.length]?=some .dfr->Q .normal ⟨s.t,S,S0.length::s.df⟩)
  (hd:∀c S,D c S->S[S0.length]?=some .dfr->AWp E none N c Q ⟨s.t,S,S0.length::s.df⟩):AWp E none N (.rangeFunc f #[p,q] asg body) Q s:=by
 refine qj7 (st:=S0) (loc:=[]) (by rw[e8];simp) hx a8 λF hF=>?_;have hl:(S0++([]++[AObj.dfr,F .ready none])).length=S0.length+2:=Sx
 have g1:(S0++([]++[AObj.dfr,F .ready none]))[S0.length]?=some .dfr:=Sx
 have g2:(S0++([]++[AObj.dfr,F .ready none]))[S0.length+1]?=some (F .ready none):=Sx
 have hz:S0.length+(([]:List AObj).length+1)=S0.length+1:=Sx
 rw[hz,show S0.length+([]:List AObj).length=S0.length from rfl];refine qr.mono (pj.run (S0.length+1) kb (S0.length+2) (S0.length+2) (λi S=>I i S∧S[S0.length]?=some .dfr∧S[S0.length+1]?=some (F .ready none)) (λS=>∃c,D c S∧S[S0.length]?=some .dfr∧S[S0.length+1]?=some (F .done (some c))) (S0++([]++[.dfr,F .ready none])) hl (Qs _) ⟨rg _ _ _ (qic (Qs _)) h0,g1,g2⟩ (λi S h=>hI i S h.1) (λi S S' hE h=>⟨rg _ _ _ (hE.weak Om) h.1,(hE.low _ Om).trans h.2.1,(hE.low _ Om).trans h.2.2⟩) ?_) ?_
 .rintro i x j S' own ⟨hi,hd1,mc⟩ cg hy
  refine qoa hF mc rfl λrd=>?_;refine(hb F own rd i x j S' hF hi hy hd1 mc cg).mono λe s1 hq=>?_;have fin:∀{S:List AObj}{z:AObj},(∀k y,own[k]?=some y->S[S0.length+2+k]?=some y)->∀k y,own[k]?=some y->(S.set (S0.length+1) z)[S0.length+2+k]?=some y:=λh k y hk=>j8 (h k y hk) Om
  cases e with
  |normal=>
   obtain⟨q1,q2,q3⟩:=hq;refine⟨q1,q2,q3.mono λe s2 r9=>?_⟩
   cases e with
   |normal=>
    obtain⟨k1,k2,k3,k4⟩:=r9
    exact⟨k2,fin k3,λ_=>⟨rg _ _ _ (qbe Om (qda hF _ _ k2)) k4,j8 k1 Om,kh k2⟩,nofun⟩
   |ret=>
    obtain⟨k1,k2,k3,k4⟩:=r9
    exact⟨k2,fin k3,nofun,λ_=>⟨_,sm _ _ _ (qbe Om (qda hF _ _ k2)) k4,j8 k1 Om,kh k2⟩⟩
   |exit id=>
    obtain⟨k1,k2,k3,k4⟩:=r9
    exact⟨k2,fin k3,nofun,λ_=>⟨_,sm _ _ _ (qbe Om (qda hF _ _ k2)) k4,j8 k1 Om,kh k2⟩⟩
   |_=>exact r9.elim
  |_=>exact hq.elim
 .rintro r S' (⟨i,hy,hi,hd1,mc⟩|⟨c,hi,hd1,mc⟩)
  .exact⟨.ready,none,nofun,mc,hn i _ hy (rg _ _ _ (qbe Om (qda hF _ _ mc)) hi) (j8 hd1 Om)⟩
  .exact⟨.done,some c,nofun,mc,hd c _ (sm _ _ _ (qbe Om (qda hF _ _ mc)) hi) (j8 hd1 Om)⟩
def evY2{ι:Type}(Y:ι->Option ((SV×SV)×ι))(i:ι):Option ((AV×AV)×ι):=match Y i with
 |some (v,j)=>some ((v.1.ev λ_=>zn,v.2.ev λ_=>zn),j)
 |none=>none
section
variable {N : Nat} {B : Bs} {C : Conf} {Q : Exit → Conf → Prop} {rd : Option Nat}
theorem q63{X:Type}{f:Operand}{p q:Tmp}{asg body:Code}{g:FuncId}{T:TypeId}{cs:List AV}{ι:Type}{Y:ι->Option ((SV×SV)×ι)}{i0:ι}(pj:ItC2 g T cs (evY2 Y) i0)(a8:∀vs w,(callFunc g vs).run E.P w=.ok (.enter g vs) w)(hY:∀i v j,Y i=some (v,j)->(v.1.all (λ_=>false)&&v.2.all (λ_=>false))=true)(kb n0:Nat)(cv:List SV)(hcv:∀ρ,SV.evs ρ cv=cs)(ks:List Nat)(I:X->Conf)(sl0:List (Nat×SV))(P:ι->X->Prop)(D:Code->X->Prop)(x0:X)(h0:P i0 x0)
  (he:EntA B.n0 C (I x0)) (hz:¬B.dz) (gp:∀x,(I x).sl=sl0)
  (hf:sval N sl0 f=some (.fn (.func g) [] [.bx kb 0]))
  (hkb:∀x,lkS (I x).hp kb=some (some (.cells T cv)))
  (hr:∀x,qbr n0 ks (I x).sl (I x).hp (I x).nx=true) (h0r:(ksIn n0 ks (I x0).hp&&Ye B.n0 n0)=true)
  (hb:∀i x v j,P i x->Y i=some (v,j)->RA E N n0 asg (λF ρ C1=>RB E N F ρ n0 body (rndQ n0 (P j) D I) C1) ⟨(q,v.2)::(p,v.1)::(I x).sl,(I x).hp,(I x).nx⟩)
  (hn:∀i x,Y i=none->P i x->Q .normal (I x)) (hd:∀c x,D c x->q2r Q c (I x)):Sm E none N B (.rangeFunc f #[p,q] asg body) Q C:=⟨λs hs=>by
 obtain⟨ts,S0,df⟩:=s;obtain⟨ρ0,hF0,hR0⟩:=hs;simp only at hF0 hR0;obtain⟨σ,hrg,he⟩:=he.ent;have hF1:=hF0.ren (C':=I x0) hrg;obtain⟨t,hw,nj⟩:=he.sat hR0;clear hF0 hR0 he hrg;generalize renR σ ρ0=ρ1 at hF1 nj;refine qv0 hw ?_;simp only[Qt]at h0r;have tz:=Ze h0r.2;have hB:=nj.len
 have lg:∀k∈ks,k<n0∧∃o,zt (ρ1 k)=some o∧o<S0.length:=λk hk=>by
  have:=Xb.1 h0r.1 k hk;simp only[Qt]at this;refine⟨vp this.1,?_⟩;have h2:=this.2;split at h2
  .rename_i T cs hl
   have s4:hpF (I x0).hp k=some (.cells T cs):=by unfold hpF;rw[hl]
   obtain⟨o,v,h1,h3,rfl⟩:=nj.hp.ok k _ s4;exact⟨o,by rw[h1];rfl,lt_of_getElem? h3⟩
  .rename_i P hl
   have s4:hpF (I x0).hp k=some (.obj P):=by unfold hpF;rw[hl]
   obtain⟨o,x,h1,h3,_⟩:=nj.hp.ok k _ s4;exact⟨o,h1,lt_of_getElem? h3⟩
  .simp at h2
 have hdn:∀d∈df,d<S0.length:=λd hd=>lt_of_getElem? (hF1.dm d hd).1;have hi0:RInv B n0 S0.length ks ρ1 t df (I x0) S0:=⟨ρ1,λ_ _=>rfl,nj,λd hd=>(hF1.dm d hd).1,Qs _⟩
 have hnm:∀x,(sl0.all λq=>q.2.all λk=>Nat.blt k n0)=true:=λx=>by
  have:=hr x;simp only[qbr,Qt,gp]at this;exact this.1.1
 have hnm:=hnm x0
 have slot:∀{ρ:Nat->AV},(∀k,k<n0->ρ k=ρ1 k)->SlOk ρ t sl0:=λ{ρ}hρ d v hd=>by
  rw[nj.sl d v (by rw[gp];exact hd)];exact(qbk (λk hk=>hρ k (vp hk)) v (Xb.1 hnm _ (vm hd))).symm
 have bv:∀x,n0<=(I x).nx:=λx=>by
  have:=hr x;simp only[qbr,Qt]at this;exact Ze this.2
 have hkb1:kb<n0∧∃o,ρ1 kb=.bx o 0 0∧o<S0.length:=by
  have h1:=hr x0;simp only[qbr,Qt]at h1;have:=Xb.1 h1.1.2 _ (vm (hkb x0));have s4:hpF (I x0).hp kb=some (.cells T cv):=by unfold hpF;rw[hkb x0]
  obtain⟨o,v,h1,h3,rfl⟩:=nj.hp.ok kb _ s4;exact⟨(lg kb (qoy this)).1,o,h1,lt_of_getElem? h3⟩
 obtain⟨hkbn,okb,hokb,hokl⟩:=hkb1;have hfe:=q9 (S:=S0) (df:=df) (slot λ_ _=>rfl) hf;simp only[SV.ev,SV.evs,hokb,bxAt]at hfe
 have out:∀{x S},RInv B n0 S0.length ks ρ1 t df (I x) S->S[S0.length]?=some .dfr->SatC B (I x) ⟨t,S,S0.length::df⟩:=λ{x S}hi hm=>by
  obtain⟨ρ,hρ,hR,gf,hnS⟩:=hi.ex;refine⟨ρ,⟨λd hd=>?_,Xf.2 ⟨λh=>Nat.lt_irrefl _ (hdn _ h),hF1.nd⟩,λk hk=>(hρ k Om).trans (hF1.rig k hk),Xq tz (bv x),λh=>(hz h).elim⟩,hR⟩;rcases Qe.1 hd with rfl|hd
  .exact⟨hm,hB⟩
  .exact⟨gf d hd,(hF1.dm d hd).2⟩
 refine q2b (S0:=S0) pj rfl hfe a8
  (λi S=>∃x,P i x∧RInv B n0 S0.length ks ρ1 t df (I x) S) (λc S=>∃x,D c x∧RInv B n0 S0.length ks ρ1 t df (I x) S) ⟨x0,h0,hi0⟩ ?_ ?_ ?_ ?_ ?_ ?_
 .rintro i S ⟨x,_,hi⟩
  obtain⟨ρ,hρ,hR,_⟩:=hi.ex;have s4:hpF (I x).hp kb=some (.cells T cv):=by unfold hpF;rw[hkb x]
  obtain⟨o,v,h1,h3,rfl⟩:=hR.hp.ok kb _ s4;rw[hρ kb hkbn,hokb]at h1;simp only[AV.bx.injEq]at h1;obtain⟨rfl,_⟩:=h1;rw[hcv]at h3;exact h3
 .rintro i S S' hE ⟨x,hx,hi⟩
  exact⟨x,hx,hi.ext lg (hr x) hB hdn hE⟩
 .rintro c S S' hE ⟨x,hx,hi⟩
  exact⟨x,hx,hi.ext lg (hr x) hB hdn hE⟩
 .rintro F own rd i u j S hF ⟨x,hx,hi⟩ hy lk hm1 tb
  obtain⟨v,hv,hu⟩:∃v,Y i=some (v,j)∧u=(v.1.ev λ_=>zn,v.2.ev λ_=>zn):=by
   unfold evY2 at hy;split at hy
   .rename_i v j2 hv
    simp only[Qd,Qj]at hy;obtain⟨rfl,rfl⟩:=hy;exact⟨v,hv,rfl⟩
   .simp at hy
  subst hu;have hva:=hY i v j hv;obtain⟨ρ,hρ,hR,gf,hnS⟩:=hi.ex
  -- what no resource's place is
  have qb9:∀o y,S[o]?=some y->S0.length<=o->(∀m sz T,y≠.tip m sz T)->¬qaq (I x).hp ρ o:=λo y hy ho hyt ⟨k,r,hk,hl⟩=>by
   rcases SR.ok_ct (hR.hp.ok k r hk) hl with⟨T,cs,v,h1,T',cs',rfl⟩|⟨m,sz,T,h1⟩|⟨sz,T,xs,rfl⟩|⟨P1,rfl⟩|⟨T2,ys2,cs2,rfl⟩
   rotate_left 2
   .exact(q54 (hr x) hk).elim
   .obtain⟨_,o',h2,h3⟩:=q5u lg (hr x) hρ hk
    rw[h2]at hl;simp only[Qd]at hl;omega
   .exact(qy8 (hr x) hk).elim
   .obtain⟨_,o',h2,h3⟩:=qud lg (hr x) hρ hk
    rw[h2]at hl;simp only[Qd]at hl;omega
   .rw[h1]at hy
    simp only[Qd]at hy;exact hyt _ _ _ hy.symm
  have a0:=qb9 _ _ lk Om (λ_ _ _=>by simp);have a1:=qb9 _ _ hm1 Om (λ_ _ _=>by rw[hF];simp);have a2:=λk y hk=>qb9 _ _ (tb k y hk).1 Om (λm sz T e=>(tb k y hk).2 m sz T (by rw[e]));have ad:∀d∈df,¬qaq (I x).hp ρ d:=λd hd ⟨k,r,hk,hl⟩=>SR.ok_dfr (hR.hp.ok k r hk) hl (gf d hd);have l2:=lt_of_getElem? hm1
  have s1:=((hb i x v j hx hv).run S (qaq (I x).hp ρ) ρ1 rd).run ⟨put (put t p (v.1.ev λ_=>zn)) q (v.2.ev λ_=>zn),S,[]⟩
   ⟨ρ,⟨nofun,Xw,hρ,bv x,λ_=>rfl⟩,?_⟩
  rotate_left
  .have r6:=hR.rebase (S':=S) λ_ _=>rfl
   refine⟨λd v hd=>?_,r6.hp,r6.own,r6.low,r6.len,λd v hd=>?_,r6.whp⟩
   .have rj:=hva
    simp only[Qt]at rj;simp only[lkS]at hd
    cases hbq:Zy q d with
    |true=>
     rw[hbq]at hd;simp only[cond_true,Qd]at hd;have e:=Xk hbq;subst e hd;simp only[put];rw[qbk (f:=λ_=>false) (ρ:=λ_=>zn) (ρ':=ρ) (λk hk=>by simp at hk) v.2 rj.2]
     simp
    |false=>
     rw[hbq]at hd;have eq:d≠q:=λe=>by subst e;simp at hbq
     simp only[cond_false]at hd
     cases bd:Zy p d with
     |true=>
      rw[bd]at hd;simp only[cond_true,Qd]at hd;have e:=Xk bd;subst e hd;simp only[put];rw[show Zy p q=false from ju eq];rw[qbk (f:=λ_=>false) (ρ:=λ_=>zn) (ρ':=ρ) (λk hk=>by simp at hk) v.1 rj.1]
      simp
     |false=>
      rw[bd]at hd;have e:d≠p:=λe=>by subst e;simp at bd
      have:=r6.sl d _ hd;simp only[put];rw[show Zy d q=false from ju eq,show Zy d p=false from ju e];exact this
   .have rj:=hva
    simp only[Qt]at rj;simp only[lkS]at hd
    cases hbq:Zy q d with
    |true=>
     rw[hbq]at hd;simp only[cond_true,Qd]at hd;subst hd
     exact all_mono (f:=λ_=>false) (λk hk=>by simp at hk) v.2 rj.2
    |false=>
     rw[hbq]at hd;simp only[cond_false]at hd
     cases bd:Zy p d with
     |true=>
      rw[bd]at hd;simp only[cond_true,Qd]at hd;subst hd
      exact all_mono (f:=λ_=>false) (λk hk=>by simp at hk) v.1 rj.1
     |false=>
      rw[bd]at hd;exact r6.wsl d _ hd
  refine s1.mono λe s1 ⟨C1,hq,rg⟩=>?_
  cases e with
  |normal=>
   obtain⟨ρs,hFs,hRs⟩:=rg;have hdf1:=hFs.dz trivial;have b1:s1.st[S0.length+1]?=some (F .ready none):=(hRs.low _ (by simp only;omega) a1).trans hm1;refine⟨b1,hdf1,?_⟩;have hq:=(hq (qaq C1.hp ρs)).run (s1.st.set (S0.length+1) (F .busy none)) (some rd)
   have c0:∀o,o<S.length->¬qaq (I x).hp ρ o->¬qaq C1.hp ρs o:=λo ho hn ⟨k,r,hk,hl⟩=>by
    rcases hRs.own k r hk o hl with h|h
    .simp only at h
     omega
    .exact hn h
   have hRb:=hRs.rebase (S':=s1.st.set (S0.length+1) (F .busy none)) λo ho=>Xl λe=>c0 (S0.length+1) Om a1 (by rw[e];exact ho);refine(hq.run ⟨s1.t,s1.st.set (S0.length+1) (F .busy none),[]⟩ ⟨ρs,⟨nofun,Xw,hFs.rig,hFs.le,nofun⟩,hRb⟩).mono λe s2 ⟨C2,r9,sm⟩=>?_;obtain⟨ρ2,hF2,ml⟩:=sm;have bt:=hRs.len
   have keep:∀o y,o≠S0.length+1->S[o]?=some y->¬qaq (I x).hp ρ o->s2.st[o]?=some y:=λo y b9 hy hn=>by
    have ho:=lt_of_getElem? hy;rw[ml.low o (by simp only[Zr];simp only at bt;omega) (c0 o ho hn)];simp only;rw[Xl (λe=>b9 e.symm),hRs.low o ho hn];exact hy
   have k0:=keep _ _ Om lk a0;have k2:∀k y,own[k]?=some y->s2.st[S0.length+2+k]?=some y:=λk y hk=>keep _ _ Om (tb k y hk).1 (a2 k y hk)
   have k1:s2.st[S0.length+1]?=some (F .busy none):=by
    rw[ml.low _ (by simp only[Zr];simp only at bt;omega) (c0 _ Om a1)];simp only;exact kh b1
   have fin:∀x',EntA n0 C2 (I x')->RInv B n0 S0.length ks ρ1 t df (I x') s2.st:=λx' gj=>by
    obtain⟨σ2,hrg2,he2⟩:=gj.ent;have hF3:=hF2.ren (C':=I x') hrg2;obtain⟨t3,_,sq⟩:=he2.sat ml;have hl3:=sq.len;simp only[Zr]at hl3;simp only at bt;refine⟨_,hF3.rig,⟨by rw[gp];exact slot hF3.rig,sq.hp,λk r hk o ho=>?_,λj hj hnj=>?_,Om,sq.wsl,sq.whp⟩,λd hd=>?_,Om⟩
    .rcases sq.own k r hk o ho with h|⟨k',r',h,h'⟩
     .simp only[Zr]at h
      exact .inl Om
     .rcases hRs.own k' r' h o h' with h|⟨k2,r2,h2,h3⟩
      .simp only at h
       exact .inl Om
      .exact hR.own k2 r2 h2 o h3
    .have hj0:¬qaq (I x).hp ρ j:=λ⟨k',r',h,h'⟩=>by
      rcases hR.own k' r' h j h' with h|h
      .omega
      .exact hnj h
     have hjS:j<S.length:=Om
     rw[<-hR.low j hj hnj];obtain⟨y,hy⟩:∃y,S[j]?=some y:=⟨_,Qb hjS⟩;rw[hy];exact keep j y Om hy hj0
    .exact keep d _ (by have:=hdn d hd;omega) (gf d hd) (ad d hd)
   cases e with
   |normal=>
    obtain⟨x',i4,gj⟩:=r9
    exact⟨k0,k1,k2,x',i4,fin x' gj⟩
   |ret=>
    obtain⟨x',i4,gj⟩:=r9
    exact⟨k0,k1,k2,x',i4,fin x' gj⟩
   |exit id=>
    obtain⟨x',i4,gj⟩:=r9
    exact⟨k0,k1,k2,x',i4,fin x' gj⟩
   |_=>exact r9.elim
  |_=>exact hq.elim
 .rintro i S hy ⟨x,hx,hi⟩ hm
  exact⟨I x,hn i x (by
   unfold evY2 at hy;split at hy
   .simp at hy
   .assumption) hx,out hi hm⟩
 .rintro c S ⟨x,hx,hi⟩ hm
  have hq:=hd c x hx
  cases c with
  |ret=>exact qw ⟨I x,hq,out hi hm⟩
  |exit id=>exact jd ⟨I x,hq,out hi hm⟩
  |_=>exact hq.elim⟩
end
end Go.Proofs.YtihlchbgjdkmpaaGreatDoor
namespace Go.Av
open Go Go.RowKit
def zdc(H:Nat->Option SR):List (Nat×Option SR)->Prop
 | []=>True
 |(k,r)::l=>H k=r∧zdc H l
theorem q1q{H:Nat->Option SR}:∀{hp:List (Nat×Option SR)},zdc H hp->resF (kr hp) H=hpF hp
 | [],_=>by funext k;simp[resF,kr,memN,hpF,lkS]
 |(i,r)::l,h=>by
  have ih:=congrFun (q1q h.2);funext k;have:=ih k;unfold resF memN kr hpF at this⊢;simp only[Zv,Zu,lkS];by_cases e:i=k
  .subst e
   simp[h.1]
  .rw[ju e,ju λh=>e h.symm,Xm,cond_false]
   exact this
theorem qsc{E:Env}{f:FuncId}{vs:List SV}{s8:List (Nat×Option SR)}{nx0 nx:Nat}{v:SV}{H:Nat->Option SR}(h:va E f vs nx0 (hpF s8) ⟨v,kr s8,s8++vv s8,nx0⟩)(hs:zdc H s8):
  va E f vs nx H ⟨v,kr s8,[],nx⟩:=λρ S hS=>by
 have hr:=q1q hs;simp only[hr]at hS;refine(h ρ S (by simpa only[wb]using hS)).mono ?_;rintro r S' ⟨ρ',rfl,hp⟩;have e:ρ'=ρ:=funext λk=>hp.old k (by simp only;omega);subst e;refine⟨ρ',rfl,λ_ _=>rfl,?_,hp.len,λj hj hn=>?_,λk r hk o ho=>?_⟩
 .have:=hp.sat
  simp only[wb,qee]at this;have e2:chF [] (resF (kr s8) H)=hpF s8:=by rw[hr];rfl
  simp only[e2];exact this
 .refine hp.fr j hj λk r hk=>?_
  simp only[wb]at hk;exact hn k r (by simp only[hr];exact hk)
 .have e2:chF [] (resF (kr s8) H)=hpF s8:=by rw[hr];rfl
  simp only[e2]at hk;exact .inr ⟨k,r,by simp only[hr];exact hk,ho⟩
end Go.Av
namespace Go.Proofs.YtihlchbgjdkmpaaGreatDoor
open Go Go.Av Go.RowKit Go.Proofs Go.Pl
structure qvi (l:qu):Prop where
 lb:LB 300040 l
 li:LI l
 lm:LM l
theorem qvi.its{l:qu}(h:qvi l):ItsB (jv l):=q96 h.lb h.li
theorem qvi.txt{l:qu}(h:qvi l):(qsp l).length<=1000000000000:=q7c h.lb h.li
end Go.Proofs.YtihlchbgjdkmpaaGreatDoor
namespace Go.Av
open Go Go.RowKit
def qkf(w:World):Gh:=⟨λk=>match w.heap[k]?with
 |some (.cells c _ _)=>some c.toList
 |_=>none,λ_=>⟨0,0,0,false⟩,0⟩
theorem qm6{w:World}{k:Nat}{c:Array Value}{T:TypeId}{fz:Nat×Nat}(h:w.heap[k]?=some (.cells c T fz)):(qkf w).pub k=some c.toList:=by simp only[qkf,h]
theorem zch(w:World):zm w.heap.size w (qkf w) [] w:=by
 refine⟨⟨rfl,rfl,rfl,Qs _,λ_ _=>rfl⟩,Qs _,rfl,λb vs h=>?_,λo x hx=>by simp at hx,λo o' x x' _ hx=>by simp at hx⟩;simp only[qkf]at h;split at h
 .rename_i c T fz hc
  simp only[Qd]at h;subst h;exact⟨c,T,fz,hc,λi y hy=>by simpa using hy⟩
 .simp at h
theorem zi0{B0:Nat}{w0:World}{G:Gh}{S:List AObj}{w:World}(hA:zm B0 w0 G S w)(b:Nat)(vs:List Value)(h:G.pub b=some vs):∃ext,(qkf w).pub b=some (vs++ext):=by
 obtain⟨c,T,fz,hc,hv⟩:=hA.pub b vs h;refine⟨c.toList.drop vs.length,?_⟩;rw[qm6 hc];congr 1;apply List.ext_getElem?;intro i;by_cases hi:i<vs.length
 .rw[Qy hi]
  have:=hv i vs[i] (Qb hi);rw[Qb hi]
  simpa using this
 .rw[List.getElem?_append_right Om,List.getElem?_drop]
  congr 1;omega
theorem qq3{B0:Nat}{w0:World}{G:Gh}{S:List AObj}{w:World}(hA:zm B0 w0 G S w){x:AV}{v:Value}(hp:Pure x)(h:Rel G x v):Rel (qkf w) x v:=hp G _ v (zi0 hA) h
theorem zi1{B0:Nat}{w0:World}{G:Gh}{S:List AObj}{w:World}(hA:zm B0 w0 G S w){sz:Nat}{T:TypeId}{xs:List AV}{c:AV}{v:Value}(hx:∀x∈xs,qil x)(ho:OwnS S sz T xs c)(h:Rel G c v):Rel (qkf w) (.sl sz xs none) v:=by
 rcases ho with⟨rfl,hn⟩|⟨o,ver,cap,pad,rfl,h1,h2,h3,h4,h5⟩
 .obtain⟨base,rfl⟩:=hn.val G v h
  exact .sl0 sz none base 0 nofun
 .obtain⟨g0,g1,g2,g3,cs,g4,g5,g6⟩:=hA.ob o _ h1
  cases h with
  |os _ _ _ _ b _ hn hv hb=>
   have hb:=hb g1;subst hb;have o7:=zw h3;refine .sl sz xs none _ 0 _ cs.toList (qm6 g4) h3 ?_ (λi x y i4 hy=>?_) nofun h4
   .have hc:cs.toList.length=cs.size:=rfl
    rw[Zk,hc,<-g5,Qg];omega
   .rw[Zk]at hy
    have hi:=lt_of_getElem? i4;refine qq3 hA ?_ (g6 i x y (by rw[Qy hi];exact i4) (by simpa using hy));obtain⟨a,ha,hxa⟩:=List.mem_flatMap.1 (Qz i4);exact hx a ha x hxa
section
variable {E : Env}
theorem zef(hok:qvg E){f:FuncId}{sz:Nat}{T T1:TypeId}{xs ls args:List AV}{cs vs:List SV}{x:Value}{r:SV}(hr:∀ρ,r.ev ρ=.v x)(sj:∀ρ,SV.evs ρ cs=ls)(hvs:∀ρ,SV.evs ρ vs=args)(hx:∀x∈xs,qil x)(hl:∀x∈ls,Pure x)(ha:∀x∈args,Pure x)
  (h:∀S,qr E f (.pp (.sl sz xs none::ls)::args) S λr S'=>r=.v x∧S'=S):
  va E f (.bx 0 0::vs) 2 (hpF [(0,some (.cells T (.tp 1::cs))),(1,some (.own sz T1 xs))]) ⟨r,kr [(0,some (SR.cells T (.tp 1::cs))),(1,some (.own sz T1 xs))],[(0,some (.cells T (.tp 1::cs))),(1,some (.own sz T1 xs))]++vv [(0,some (SR.cells T (.tp 1::cs))),(1,some (.own sz T1 xs))],2⟩:=λρ S hS=>by
 simp only[wb]at hS;obtain⟨o,ver,hb,hSo,cn⟩:=hS.ok 0 _ rfl;have cg:OwnS S sz T1 xs (ρ 1):=hS.ok 1 _ rfl;have e:SV.evs ρ (.bx 0 0::vs)=.bx o ver 0::args:=by simp only[SV.evs,SV.ev,hb,bxAt,hvs]
 have e1:SV.evs ρ (.tp 1::cs)=ρ 1::ls:=by simp only[SV.evs,SV.ev,qsl cg,sj]
 rw[e1]at hSo;rw[e];refine⟨λB0 w0 G vals w hL hA hR=>?_⟩;obtain⟨g0,g1,g2,g3,c,g4,g5,g6⟩:=hA.ob o _ hSo
 have pt:RelL (qkf w) (.pp (.sl sz xs none::ls)::args) vals:=by
  refine⟨hR.1,λi a y ha' hy=>?_⟩
  cases i with
  |zero=>
   simp only[Qm,Qd]at ha';subst ha';have h0:=hR.2 0 _ y rfl hy
   cases h0 with
   |bx _ _ _ b hn hv fx=>
    have fx:=fx g1;subst fx;refine .pp _ _ 0 c.toList (qm6 g4) (by have hc:c.toList.length=c.size:=rfl;rw[Zk,hc,<-g5];exact Qs _) λj a z hj hz=>?_;rw[Zk]at hz;have hz:c[j]?=some z:=by simpa using hz
    cases j with
    |zero=>
     simp only[Qm,Qd]at hj;subst hj
     exact zi1 hA hx cg (g6 0 _ z rfl hz)
    |succ j=>
     rw[Qf]at hj
     exact qq3 hA (hl a (Qz hj)) (g6 (j+1) a z (by rw[Qf];exact hj) hz)
  |succ i=>
   rw[Qf]at ha';exact qq3 hA (ha a (Qz ha')) (hR.2 (i+1) a y (by rw[Qf];exact ha') hy)
 refine((h []).run w.heap.size w (qkf w) vals w (hok B0 w0 w hL hA.below hA.hB) (zch w) pt).mono ?_;rintro en w' ⟨v,G',r',st',rfl,hG,hA',i7,rfl,rfl⟩
 cases i7
 refine⟨_,G,_,S,rfl,.refl G,hA.fresh hA'.below,.v x,ρ,(hr ρ).symm,λ_ _=>rfl,?_,Qs _,λ_ _ _=>rfl,λk q hk o ho=>?_⟩
 .simp only[wb,qee]
  exact hS
 .simp only[wb,qee]at hk⊢
  exact .inr ⟨k,q,hk,ho⟩
end
end Go.Av
namespace Go.Pl
open Go Go.Proofs Go.Av Go.Proofs.YtihlchbgjdkmpaaGreatDoor
theorem zez{l:qu}{id:Int}(h:atF l id<0):qd1 l id=[]:=by
 by_cases h1:1<=id
 .rcases q4x l id with⟨_,g⟩|⟨i,e,g,_⟩
  .exact g h1
  .omega
 .unfold qd1
  have:(stzF l.ents).find? (λs=>decide (s.1=id))=none:=by
   rw[Xp];intro s hs;unfold stzF at hs;obtain⟨e,he,rfl⟩:=Qo.1 hs;have:=(Zp.1 he).2;simp only[decide_eq_true_eq]at this⊢;omega
  rw[this];rfl
theorem q26:∀(b:List qp)(n:Nat)(l:qu),LB n l->n+b.length<900000->LB (n+b.length) (vf b l)
 | [],n,l,h,_=>h
 |x::r,n,l,h,hs=>by
  have:=q26 r (n+1) (oneF l x).2.2 (qnu h (by simp at hs;omega) x) (by simp at hs;omega);rw[show n+1+r.length=n+(x::r).length by simp;omega]at this;exact this
theorem q27:∀(b:List qp)(l:qu),LI l->LI (vf b l)
 | [],l,h=>h
 |x::r,l,h=>q27 r _ (zak h x)
theorem q7a:∀(b:List qp)(l:qu),qel b l->∀(i:Nat)(x:qp),b[i]?=some x->(oneF (vf (b.take i) l) x).2.1=.no
 | [],l,_,i,x,h=>by simp at h
 |y::r,l,h,0,x,hx=>by
  simp only[Qm,Qd]at hx;subst hx
  exact h.1
 |y::r,l,h,i+1,x,hx=>q7a r _ h.2 i x (by simpa using hx)
theorem zba{b:List qp}{l:qu}{i:Nat}{x:qp}(h:b[i]?=some x):vf (b.take (i+1)) l=(oneF (vf (b.take i) l) x).2.2:=by
 rw[Qq,h];exact qvl _ _ _
theorem q0v{x:qp}(h:gErr x=.no):x.kind=1∨x.kind=2∨x.kind=3:=by
 unfold gErr at h;split at h
 .rename_i h2;exact .inr (.inl h2)
 .split at h
  .rename_i h1;rcases h1 with h1|h1
   .exact .inl h1
   .exact .inr (.inr h1)
  .simp at h
theorem zmo{l:qu}{x:qp}(hn:GN l)(h:(oneF l x).2.1=.no)(hk:gErr x=.no):(x.kind=3->0<(oneF l x).1)∧(x.kind≠3->(oneF l x).1=0):=by
 have bv:=hn.nx;rcases qmn hn h with⟨h1,h2,_⟩|⟨h1,h2,_⟩|⟨h1,h2,h3,_⟩
 .exact⟨λh=>by omega,λ_=>h2⟩
 .exact⟨λh=>by omega,λ_=>h2⟩
 .refine⟨λ_=>by omega,λh=>?_⟩
  rcases q0v hk with g|g|g
  .exact absurd g h1
  .exact absurd g h2
  .exact absurd g h
@[reducible] def zdh (x : qp) (s : qlt) : AV := .ag [Iv s.kind, Iv s.id, jl x.fields, jl s.was, Iv s.ahead]
def qcz(b:List qp)(l:qu):List AV:=(Xy b.length).map λi=>match b[i]?with
 |some x=>zdh x (qa5 (vf (b.take i) l) x)
 |none=>zn
theorem q1v(b:List qp)(l:qu):(qcz b l).length=b.length:=by simp[qcz]
theorem qry{b:List qp}{l:qu}{i:Nat}{x:qp}(h:b[i]?=some x):(qcz b l)[i]?=some (zdh x (qa5 (vf (b.take i) l) x)):=by
 have hi:=(Qr.1 h).1;unfold qcz;rw[Qi,List.getElem?_range hi];simp only[Xe,h]
theorem zdi{b:List qp}{l:qu}{i:Nat}{x:qp}(h:b[i]?=some x):(qcz b l).take (i+1)=(qcz b l).take i++[zdh x (qa5 (vf (b.take i) l) x)]:=by
 rw[Qq,qry h];rfl
theorem q85(b:List qp)(l:qu):∀x∈qcz b l,qil x:=λy hy=>by
 unfold qcz at hy;obtain⟨i,_,rfl⟩:=Qo.1 hy;split
 .intro z hz
  simp only[AV.cells,Qe,Qk,or_false]at hz;rcases hz with rfl|rfl|rfl|rfl|rfl
  .exact qt _
  .exact qt _
  .exact qa1 _
  .exact qa1 _
  .exact qt _
 .intro z hz
  simp only[AV.cells,zn,Qe,Qk,or_false]at hz;subst hz;exact qt _
theorem qze{b:List qp}{l:qu}{i:Nat}{x:qp}(h:b[i]?=some x):((ya b l).take (i+1)).reverse=qa5 (vf (b.take i) l) x::((ya b l).take i).reverse:=by
 rw[Qq,qx0 b l i x h];simp
end Go.Pl
namespace Go.Proofs.YtihlchbgjdkmpaaGreatDoor
open Go Go.Av Go.RowKit Go.Proofs Go.Pl
theorem zig(l:qu)(id:Int)(st:List AObj)(hl:l.ents.length<1000000)(hI:LI l):qr E 123 [v4 l,Iv id] st λr st'=>r=Iv (qd8 l id)∧st'=st:=by
 refine zj [.a (v4 l),.i id] (qt _) Tryz.func123 rfl rfl (λ_=>rfl) rfl λS0=>?_;have hz:=λst=>zck l st hl λe he=>by have:=(hI e he).2;omega
 have hp:=λst=>zi8 l id st hl;rcases q7m l id with⟨h1,h2⟩|⟨i,s,h1,h2,h3⟩
 .rw[h2]
  generalize qlg l id=p at hp h1;apply qf [];repeat' (first|apply Qa|(intro h;try exact cDd)|exact⟨Tryz.call14⟩|refine cpe hz ?_|exact⟨Tryz.call58⟩|refine cpe hp ?_|exact cSd|apply qd []|refine exr ?_|refine qg ?_)
 .rw[h3]
  rw[h1]at hp;have hx:((stzF l.ents).map stzA)[i]?=some (stzA s):=by rw[Qi,h2];rfl
  have dg:=lt_of_getElem? h2;have gp:=zkk l.ents;apply qf [];repeat' (first|apply Qa|(intro h;try exact cDd)|exact⟨Tryz.call14⟩|refine cpe hz ?_|exact⟨Tryz.call58⟩|refine cpe hp ?_|(refine Qc (i) ⟨Om,_,hx,?_⟩)|exact cSd|apply qd []|refine exr ?_|refine qg ?_)
theorem q77(l:qu)(id:Int)(hl:l.ents.length<1000000)(hI:LI l):va E 123 [.bx 0 0,.i id] 2 (hpF (lstH 1 l)) ⟨.i (qd8 l id),kr (lstH 1 l),lstH 1 l++vv (lstH 1 l),2⟩:=
 zef E_ok (x:=.int .i64 (qd8 l id)) (xs:=l.ents.map entA) (ls:=[Iv l.next,Iv l.many]) (args:=[Iv id]) (cs:=[.i l.next,.i l.many]) (vs:=[.i id]) (λ_=>rfl) (λ_=>rfl) (λ_=>rfl)
  (λx hx=>by obtain⟨e,_,rfl⟩:=Qo.1 hx;exact qoi e)
  (λx hx=>by simp only[Qe,Qk,or_false]at hx;rcases hx with rfl|rfl <;>exact qt _)
  (λx hx=>by simp only[Qe,Qk,or_false]at hx;subst hx;exact qt _)
  λS=>zig l id S hl hI
theorem zfe(l:qu)(id:Int)(hl:l.ents.length<1000000)(hI:LI l):∃v:AV,((v=zn∧qd1 l id=[])∨v=jl (qd1 l id))∧va E 124 [.bx 0 0,.i id] 2 (hpF (lstH 1 l)) ⟨.tu [.a v,.b (decide (0<=atF l id))],kr (lstH 1 l),lstH 1 l++vv (lstH 1 l),2⟩:=by
 have h1:=qsa l id hl;by_cases h:atF l id<0
 .refine⟨zn,.inl ⟨rfl,zez h⟩,?_⟩
  rw[decide_eq_false (by omega:¬0<=atF l id)];refine xl [.bx 0 0,.i id] (lstH 1 l) 2 (.tu [.a zn,.b false]) (lstH 1 l) 2 Tryz.func124 rfl rfl rfl rfl λS F ρ=>?_;generalize atF l id=n at *;apply qf [];repeat' (first|apply Qa|(intro h;try exact cDd)|exact⟨Tryz.call174⟩|(refine jm h1 ?_)|exact cSd|apply qd []|refine exr ?_|refine qg ?_)
 .obtain⟨i,e,g1,g2,g3⟩:∃(i:Nat)(e:EntV),atF l id=(i:Int)∧l.ents[i]?=some e∧qd1 l id=e.x.fields:=by
   rcases q4x l id with⟨g,_⟩|g
   .exact absurd g h
   .exact g
  refine⟨jl (qd1 l id),.inr rfl,?_⟩;rw[g3,decide_eq_true (by omega:0<=atF l id)];refine xl [.bx 0 0,.i id] (lstH 1 l) 2 (.tu [.a (jl e.x.fields),.b true]) (lstH 1 l) 2 Tryz.func124 rfl rfl rfl rfl λS F ρ=>?_;rw[g1]at h1;have hm:(l.ents.map entA)[i]?=some (entA e):=by rw[Qi,g2];rfl
  have dg:=lt_of_getElem? hm;have gr:=λst=>qho e.x.fields st (by have:=(hI e (Qz g2)).2;omega);apply qf [];repeat' (first|apply Qa|(intro h;try exact cDd)|exact⟨Tryz.call174⟩|(refine jm h1 ?_)|(refine qgh (i:=i) rfl rfl rfl rfl rfl rfl Om ?_)|(refine qif (i:=i) (j:=2) rfl rfl rfl rfl hm rfl rfl ?_)|exact⟨Tryz.call40⟩|refine cpe gr ?_|exact cSd|apply qd []|refine exr ?_|refine qg ?_)
end Go.Proofs.YtihlchbgjdkmpaaGreatDoor
namespace Go.Av
open Go Go.RowKit
section
variable {α : Type} [DecidableEq α] {kd : TypeDesc} {key : α → Value}
theorem q07(hs:∀a b,Instr.sameNow kd (key a) (key b)=some (decide (b=a)))(s:α):∀(L:List (α×Int))(i:Nat)(r:Option (Nat×Value)),qde kd (key s) (L.map (kvM key)) i=some r->r.isSome=L.any λq=>decide (q.1=s)
 | [],i,r,h=>by
  simp only[List.map_nil,qde,Qd]at h;subst h
  rfl
 |q::L,i,r,h=>by
  rw[Zv,qde]at h;have e:Instr.sameNow kd (key s) (kvM key q).1=some (decide (q.1=s)):=hs s q.1;rw[e]at h;rw[Zu];by_cases hq:q.1=s
  .rw[decide_eq_true hq]at h⊢
   simp only[Qd]at h;subst h;rfl
  .rw[decide_eq_false hq]at h⊢
   rw[Xm];exact q07 hs s L (i+1) r h
variable {E : Env} {N : Nat} {ops : Array Oper} {nx : Nat} {sl : List (Nat × SV)} {H : Nat → Option SR} {k : Ef → Prop} {d : Option Tmp} {T : TypeId} {p : String} {af : Array Edge}
theorem q06{t kt vt:TypeId}{x y:Operand}{b:Nat}{L:List (α×Int)}{v:SV}{s:α}(hs:∀a b,Instr.sameNow kd (key a) (key b)=some (decide (b=a)))(hx:sval N sl x=some (.tp b))(hH:H b=some (.obj (mapP (L.map (kvM key)))))(hy:sval N sl y=some v)(hv:∀ρ,v.ev ρ=.v (key s))
  (hu:E.P.underlying t=some (.map kt vt)) (hk:E.P.underlying kt=some kd) (bf:mkey kd (key s)=true) (hz:(E.P.info? vt).bind (λi=>i.zero)=some (.int .i64 0))
  (h:k ⟨.tu [.i (getM s L),.b (L.any λq=>decide (q.1=s))],[b],[],nx⟩):∃e,Loc E N ops ⟨d,.lookup t x y true,T,p,af,none⟩ nx sl H e∧k e:=by
 obtain⟨r,h1,h2,_⟩:=qyy hs s 0 L [];rw[<-q07 hs s L 0 r h1]at h;exact zjd hx hH hy hv hu hk bf h1 hz h2 h
end
end Go.Av
namespace Go.Proofs.YtihlchbgjdkmpaaGreatDoor
open Go Go.Av Go.RowKit Go.Proofs Go.Pl
theorem ze9{text:qc}(b:j5)(st:List AObj)(hB:BkB b)(hT:xy text b):qr E 47 [qbd b] st λr st'=>r=wn (qfr b)∧st'=st:=by
 refine zj [.a (qbd b)] (qcr _) Tryz.func47 rfl rfl (λ_=>rfl) rfl λS0=>?_;have d7:=λst=>ze7 b.gen st;have o0:(b.ends.map λx=>Iv x).length=b.ends.length:=Sx
 have nq:b.ends.length<=14000:=by
  have:=hB.len;rw[hT.ends,qk3];omega
 have hs:(qfr b).map (λx=>Iv x)=[Iv ((wa b.gen).length+b.base.length:Nat)]++b.ends.map λx=>Iv x:=rfl;have hhl:=q4z b.gen;have dn:=hB.base;generalize(wa b.gen).length=m at *;apply qf [10];repeat' (first|apply Qa|(intro h;try exact cDd)|exact⟨Tryz.call52⟩|refine cpe d7 ?_|exact cSd|apply qd [10]|refine exr ?_|refine qg ?_)
 all_goals first|rfl|exact .inl (by simp[SV.evs];omega)|(refine congrArg (λz=>AV.sl 1 z none) ?_;rw[hs];simp[SV.evs,SV.ev];done)
theorem zil(n:Nat)(l:qu)(b:List qp)(st:List AObj)(hB:LB n l)(hn:n+40<900000)(hI:LI l)(hE:∀x∈b,EdB x)(hl:b.length<=40)(hg:∀x∈b,gErr x=.no)(hN:GN l)(ht:qel b l):qr E 74 [v4 l,zr b] st λr st'=>r=.sl 5 (qcz b l) none∧st'=st:=by
 refine qpc [.a (v4 l),.a (zr b)] (qaz (q85 b l)) Tryz.func74 rfl rfl (λ_=>rfl) rfl λS0=>?_;have sg:=q99 l (by have:=hB.len;omega);have o0:(b.map zz).length=b.length:=Sx
 have hxl:=q1v b l;apply qf [];repeat' (first|apply Qa|(intro h;try exact cDd)|exact⟨Tryz.call119⟩|(refine jm sg ?_)|exact cSd|apply qd []|refine exr ?_|refine qg ?_)
 refine zx (X:=Nat×qu) (λ(k,q)=>⟨[(5,.bx 0 0),(6,.tp 2),(14,.a (zr b)),(15,.i b.length),(16,.i k)],[(0,some (.cells 144 [.tp 1,.i q.next,.i q.many])),(1,some (.own 4 100 (q.ents.map entA))),(2,some (.tip 5 156 ((qcz b l).take k)))],3⟩)
  (λ(k,q)=>k<=b.length∧q=vf (b.take k) l) (λ(k,q)=>b.length-k) (0,l) ⟨Om,rfl⟩ ?_ ?_
 .skip
  repeat' (first|apply Qa|(intro h;try exact cDd)|exact cSd|apply qd []|refine exr ?_|refine qg ?_)
  all_goals first|rfl|(simp;done)
 .rintro⟨k,q⟩ ⟨hk,hq⟩
  by_cases e9:k<b.length
  .have hx:b[k]?=some b[k]:=Qb e9
   have i3:(b.map zz)[k]?=some (zz b[k]):=by rw[Qi,hx];rfl
   have hxE:=hE b[k] (Qn e9);have sk:=hg b[k] (Qn e9);have hxf:=(qgv sk).1;have sw:(b.take k).length=k:=So
   have hqB:=q26 (b.take k) n l hB Om;rw[sw,<-hq]at hqB;have hqI:=q27 (b.take k) l hI;have hqN:=qt2 (b.take k) l hN;have tn:=q7a b l ht k _ hx;have e8:=zdi (l:=l) hx;have haf:=zba (l:=l) hx;rw[<-hq]at hqI hqN tn e8 haf;have gp:((qcz b l).take k).length=k:=by rw[Xa,hxl];omega
   clear hq;generalize b[k]=x at hx i3 hxE sk hxf tn e8 haf;have hq1:=hqB.len;have hah:=q77 q x.id Om hqI;have fp:=zfe q x.id Om hqI;have mz:=zeu (n+k) q x hqB hxE.keys Om;obtain⟨m1,m2⟩:=zmo hqN tn sk;unfold qa5 at e8;obtain⟨v,hv,fp⟩:=fp;generalize qd1 q x.id=fl at *;generalize qd8 q x.id=ah at *;generalize hoo:oneF q x=o at *;obtain⟨id,e,q'⟩:=o;dsimp only at *;subst tn;rcases hv with⟨rfl,rfl⟩|rfl
   all_goals
    by_cases h0:0<id
    all_goals
     first|rw[if_pos h0]at e8|rw[if_neg h0]at e8
     apply qf [];repeat' (first|apply Qa|(intro h;try exact cDd)|(refine Qc (k) ⟨Om,_,i3,?_⟩)|exact⟨Tryz.call123⟩|(refine Qc _ ⟨qsc hah ⟨rfl,rfl,trivial⟩,?_⟩)|exact⟨Tryz.call124⟩|(refine jm fp ?_)|exact⟨Tryz.call120⟩|(refine jm mz ?_)|(refine Qc (k+1,q') ⟨⟨Om,haf.symm⟩,by simp only;omega,?_⟩)|exact cSd|apply qd []|refine exr ?_|refine qg ?_)
     all_goals first|rfl|exact e8.symm|(simp;omega)
  .have e9:k=b.length:=by omega
   subst e9;have hfull:(qcz b l).take b.length=qcz b l:=Qu Om;apply qf [];repeat' (first|apply Qa|(intro h;try exact cDd)|exact cSd|apply qd []|refine exr ?_|refine qg ?_)
   all_goals first|rfl|(simp[hfull];done)
def qob(xs:List AV):Nat->Option ((SV×SV)×Nat)
 |0=>none
 |k+1=>match xs[k]?with
  |some x=>some ((.i k,.a x),k)
  |none=>none
theorem qv1{xs:List AV}{k j:Nat}{v:SV×SV}(h:qob xs k=some (v,j)):∃x,k=j+1∧xs[j]?=some x∧v=(.i j,.a x):=by
 cases k with
 |zero=>simp[qob]at h
 |succ k=>
  rw[qob]at h;split at h
  .rename_i x hx
   simp only[Qd,Qj]at h;obtain⟨rfl,rfl⟩:=h;exact⟨x,rfl,hx,rfl⟩
  .simp at h
theorem zbn{xs:List AV}{k:Nat}(h:qob xs k=none)(hk:k<=xs.length):k=0:=by
 cases k with
 |zero=>rfl
 |succ k=>
  rw[qob,Qb Om]at h;simp at h
theorem zhw(xs:List AV)(hl:xs.length<1000000)(hp:∀x∈xs,∃a b c d e,x=.ag [a,b,c,d,e]):ItC2 122 154 [.sl 5 xs none] (evY2 (qob xs)) xs.length:=⟨λo kb n m I D S hm hn h0 hI e8 hY=>by
 refine qs Tryz.func122 rfl (Ze rfl) ?_;have hb:=hI _ S h0;repeat' (first|apply qq|apply q6|apply qh|apply qj|apply qi|(apply jp;(iterate 4 exact rfl))|(apply ww;exact rfl;exact rfl;exact q8 Om Om)|(apply qbh;exact rfl;exact rfl;exact hb;exact rfl;exact rfl))
 refine jt (λ(k:Nat)s=>∃S',I k S'∧k<=xs.length∧StA [(0,.yd o),(1,.bx kb 0 0),(3,Iv ((k:Int)-1))] (S'++[]) [] s) (λk=>k) xs.length ⟨_,by rw[Zc];exact h0,Om,qn1 (z7 ⟨rfl,rfl,rfl,trivial⟩)⟩ ?_;rintro k _ ⟨S',hi,hk,t,rfl⟩;rw[Zc];have fx:=hI _ _ hi
 cases k with
 |zero=>
  repeat' (first|apply qq|apply qh|apply qj|apply ql|(apply qv;(iterate 3 exact rfl))|(apply qe;exact rfl;apply v8;exact cAo)|apply jd)
  exact qo rfl (yx rfl) (.inl ⟨0,rfl,hi⟩)
 |succ k=>
  have hx:xs[k]?=some xs[k]:=Qb Om;obtain⟨a,b,c,d,e,hxe⟩:=hp xs[k] (Qn Om);rw[hxe]at hx;rw[show(((k+1:Nat):Int)-1)=(k:Int)by omega];repeat' (first|apply qq|apply q6|apply qh|apply qj|apply ql|(apply qv;(iterate 3 exact rfl))|(apply qe;exact rfl;apply vo;exact cAo)|(apply jq;(iterate 3 exact rfl))|apply qz|(apply vb;exact rfl;exact fx;exact rfl;exact rfl)|(apply kp (n:=k);(iterate 5 exact rfl);exact hx))
  apply qdh (o:=o) rfl;refine yv.mono (hY (k+1) (Iv k,.ag [a,b,c,d,e]) k _ [] hi (λj y hy=>by simp at hy) (by simp[evY2,qob,hx,SV.ev])) ?_;rintro b S2 ⟨_,h2,h3⟩
  show AOps _ _ _ _ _ _ _
  cases b
  .skip
   repeat' (first|apply qj|(apply ja;exact rfl)|(apply qe;exact rfl;apply qit;exact cRa)|apply qw)
   exact qo rfl (yx rfl) (.inr (h3 rfl))
  .skip
   repeat' (first|apply qh|apply qj|apply ql|apply qi|(apply ja;exact rfl)|(apply qe;exact rfl;apply qis;exact cRa)|(apply ww;exact rfl;exact rfl;exact q8 Om Om)|apply qz)
   exact⟨k,⟨_,h2 rfl,Om,qn1 (z7 ⟨rfl,rfl,congrArg (λn:Int=>Iv n) Om,trivial⟩)⟩,Om⟩⟩
theorem zlf(xs:List AV):va E 73 [.a (.sl 5 xs none)] 0 (hpF []) ⟨.fn (.func 122) [] [.bx 0 0],kr [],[(0,some (.cells 154 [.a (.sl 5 xs none)]))]++vv [],1⟩:=by
 refine xl [.a (.sl 5 xs none)] [] 0 (.fn (.func 122) [] [.bx 0 0]) [(0,some (.cells 154 [.a (.sl 5 xs none)]))] 1 Tryz.func73 rfl rfl rfl rfl λS F ρ=>?_;apply qf [1];repeat' (first|apply Qa|(intro h;try exact cDd)|exact cSd|apply qd [1]|refine exr ?_|refine qg ?_)
@[reducible] def nmH (L : List (Int × Int)) : List (Nat × Option SR) := [(1, some (.obj (mapP (L.map (kvM keyI))))), (2, some (.cells 149 [.tp 1]))]
theorem zij(id:Int)(L:List (Int×Int)):va E 72 [.i id,.bx 2 0] 3 (hpF (nmH L)) ⟨.i (w6 L id),kr (nmH L),nmH L++vv (nmH L),3⟩:=by
 refine xl [.i id,.bx 2 0] (nmH L) 3 (.i (w6 L id)) (nmH L) 3 Tryz.func72 rfl rfl rfl rfl λS F ρ=>?_;unfold w6
 cases hb:(L.any λq=>decide (q.1=id))with
 |true=>
  rw[if_pos rfl];apply qf [];repeat' (first|apply Qa|(intro h;try exact cDd)|(refine q06 q61 rfl rfl rfl (λ_=>rfl) rfl rfl rfl rfl ?_)|exact absurd (h.symm.trans hb) (by decide)|exact cSd|apply qd []|refine exr ?_|refine qg ?_)
  all_goals first|assumption|rfl|(simp_all;done)
 |false=>
  rw[if_neg (by decide)];apply qf [];repeat' (first|apply Qa|(intro h;try exact cDd)|(refine q06 q61 rfl rfl rfl (λ_=>rfl) rfl rfl rfl rfl ?_)|exact absurd (h.symm.trans hb) (by decide)|exact cSd|apply qd []|refine exr ?_|refine qg ?_)
  all_goals first|assumption|rfl|(simp_all;done)
set_option maxHeartbeats 4000000 in
theorem zly(l:qu)(b:List qp)(st:List AObj)(hB:LB 860000 l)(hM:LM l)(hI:LI l)(hN:GN l)(hG:GL l)(hE:∀x∈b,EdB x)(hl:b.length<1000000):qr E 42 [v4 l,zr b] st λr st'=>r=.tu [zr (if(doF l b).1=.no then qbo l b else []),errA (doF l b).1]∧st'=st:=by
 refine zj [.a (v4 l),.a (zr b)] (kc (qc6 _) (ku _)) Tryz.func42 rfl rfl (λ_=>rfl) rfl λS0=>?_;have mb:=λst=>zb2 860000 l b st hB Om hE hl;unfold doA at mb
 cases mq:(doF l b).1 with
 |num m=>
  rw[mq]at mb;rw[if_neg Sx];apply qf []
  repeat' (first|apply Qa|(intro h;try exact cDd)|exact⟨Tryz.call70⟩|refine cpe mb ?_|exact cSd|apply qd []|refine exr ?_|refine qg ?_)
 |at' a m=>
  rw[mq]at mb;rw[if_neg Sx];apply qf []
  repeat' (first|apply Qa|(intro h;try exact cDd)|exact⟨Tryz.call70⟩|refine cpe mb ?_|exact cSd|apply qd []|refine exr ?_|refine qg ?_)
 |no=>
  rw[mq]at mb;rw[if_pos rfl];obtain⟨he,ht,ha⟩:=qvb mq;obtain⟨r6,hb40,hg⟩:=qcd he;have r8:=λst=>zil 860000 l b st hB Om hI hE hb40 hg hN ht;have hdB:=qwc hB Om b;have bd:qbo l b=yp (ya b l).reverse [] (doF l b).2.1.next:=rfl;have hxl:=q1v b l
  have pj:=zhw (qcz b l) Om λx hx=>by
   obtain⟨i,hi⟩:=List.getElem?_of_mem hx;have dg:=(Qr.1 hi).1;rw[hxl]at dg;rw[qry (Qb dg)]at hi;simp only[Qd]at hi;exact⟨_,_,_,_,_,hi.symm⟩
  rw[bd];generalize(doF l b).2.2=ids at mb;generalize(doF l b).2.1=d at *;have hdn:=λst=>zmc d st;have hd0:=hdB.nx0;have hd1:=hdB.nx1;clear bd;apply qf [];repeat' (first|apply Qa|(intro h;try exact cDd)|exact⟨Tryz.call70⟩|refine cpe mb ?_|exact⟨Tryz.call71⟩|refine cpe hdn ?_|exact⟨Tryz.call74⟩|refine cpe r8 ?_|(refine zmk ?_)|exact⟨Tryz.call73⟩|(refine jm (zlf (qcz b l)) ?_)|exact cSd|apply qd []|refine exr ?_|refine qg ?_)
  refine q63 (X:=List qp×List (Int×Int)×Int) pj Tryz.call122 (λi v j h=>by obtain⟨x,_,_,rfl⟩:=qv1 h;rfl) 5 6 [.a (.sl 5 (qcz b l) none)] (λ_=>rfl) [0,1,2,3,4,5]
   (λ(out,L,n)=>⟨[(9,.bx 0 0),(10,.bx 2 0),(11,.bx 3 0),(12,.bx 4 0),(32,.fn (.func 122) [] [.bx 5 0])],
    [(0,some (.cells 3 [.i n])),(1,some (.obj (mapP (L.map (kvM keyI))))),(2,some (.cells 149 [.tp 1])),(3,some (.cells 126 [.fn (.func 72) [] [.bx 2 0]])),(4,some (.cells 42 [.tp 6])),(5,some (.cells 154 [.a (.sl 5 (qcz b l) none)])),(6,some (.tip 3 81 (out.map zz)))],7⟩) _
   (λk(out,L,n)=>k<=b.length∧out.length+k=b.length∧0<=n∧n<=900000+(out.length:Int)∧out++yp ((ya b l).take k).reverse L n=yp (ya b l).reverse [] d.next) (λ_ _=>False) ([],[],d.next) ⟨Om,by simp[hxl],Om,So,by rw[Qu (by rw[qjr];omega)];rfl⟩ ?_ (λh=>h) (λ_=>rfl) rfl (λ_=>rfl) (λ_=>rfl) rfl ?_ ?_ (λ_ _ h=>h.elim)
  .skip
   repeat' (first|apply Qa|(intro h;try exact cDd)|exact cSd|apply qd []|refine exr ?_|refine qg ?_)
   all_goals first|rfl|assumption|(simp;done)
  .rintro k ⟨out,L,n⟩ v j ⟨p1,p2,p3,p4,p5⟩ hv
   obtain⟨y,rfl,hy,rfl⟩:=qv1 hv;have hx:b[j]?=some b[j]:=Qb Om;have sk:=hg b[j] (Qn Om);have hyx:=qry (l:=l) hx;rw[hy]at hyx;simp only[Qd]at hyx;subst hyx;have hrs:=qze (l:=l) hx;rw[hrs,yp]at p5;have hkind:(qa5 (vf (b.take j) l) b[j]).kind=1∨(qa5 (vf (b.take j) l) b[j]).kind=2∨(qa5 (vf (b.take j) l) b[j]).kind=3:=q0v sk;generalize qa5 (vf (b.take j) l) b[j]=s at *;generalize b[j]=x at *;have mw:(out.map zz).length=out.length:=Sx
   have bw:∀(a:qp),(out++[a]).map zz=out.map zz++[zz a]:=λa=>by simp
   have hnm:=λid=>zij id L;rcases hkind with hk|hk|hk
   .rw[if_pos hk]at p5
    refine RA.mk λS F ρ rd=>?_;apply qf [];repeat' (first|apply Qa|(intro h;try exact cDd)|(refine RB.mk λS rd=>?_;apply qf [])|exact⟨Tryz.call72⟩|(refine Qc _ ⟨qsc (hnm s.id) ⟨rfl,rfl,trivial⟩,?_⟩)|(refine Qc (out++[⟨1,w6 L s.id,s.was⟩],L,n) ⟨⟨Om,So,p3,So,by rw[<-p5];simp⟩,?_⟩)|exact cSd|apply qd []|refine exr ?_|refine qg ?_)
    all_goals first|rfl|assumption|omega|exact(bw ⟨1,w6 L s.id,s.was⟩).symm|(simp[SV.evs];omega)
   .rw[if_neg Om,if_pos hk]at p5
    refine RA.mk λS F ρ rd=>?_;apply qf [];repeat' (first|apply Qa|(intro h;try exact cDd)|(refine RB.mk λS rd=>?_;apply qf [])|exact⟨Tryz.call72⟩|(refine Qc _ ⟨qsc (hnm s.ahead) ⟨rfl,rfl,trivial⟩,?_⟩)|(refine zi9 q61 rfl rfl rfl (λ_=>rfl) rfl (λ_=>rfl) rfl rfl rfl ?_)|(refine Qc (out++[⟨3,w6 L s.ahead,s.was⟩],setM s.id n L,n+1) ⟨⟨Om,So,Om,So,by rw[<-p5];simp⟩,?_⟩)|exact cSd|apply qd []|refine exr ?_|refine qg ?_)
    all_goals first|rfl|assumption|omega|exact(bw ⟨3,w6 L s.ahead,s.was⟩).symm|(simp[SV.evs];omega)
   .rw[if_neg Om,if_neg Om]at p5
    refine RA.mk λS F ρ rd=>?_;apply qf [];repeat' (first|apply Qa|(intro h;try exact cDd)|(refine RB.mk λS rd=>?_;apply qf [])|exact⟨Tryz.call72⟩|(refine Qc _ ⟨qsc (hnm s.id) ⟨rfl,rfl,trivial⟩,?_⟩)|(refine Qc (out++[⟨2,w6 L s.id,[]⟩],L,n) ⟨⟨Om,So,p3,So,by rw[<-p5];simp⟩,?_⟩)|exact cSd|apply qd []|refine exr ?_|refine qg ?_)
    all_goals first|rfl|assumption|omega|exact(bw ⟨2,w6 L s.id,[]⟩).symm|(simp[SV.evs];omega)
  .rintro i ⟨out,L,n⟩ hy ⟨p1,p2,p3,p4,p5⟩
   have:=zbn hy Om;subst this;have p5:out++[]=_:=p5;rw[Zc]at p5;rw[<-p5];repeat' (first|apply Qa|(intro h;try exact cDd)|exact cSd|apply qd []|refine exr ?_|refine qg ?_)
   all_goals first|rfl|(simp;done)
end Go.Proofs.YtihlchbgjdkmpaaGreatDoor
namespace Go.Pl
open Go Go.Proofs Go.Proofs.YtihlchbgjdkmpaaGreatDoor
def qjl(text:qc):ErrV×j5×List (List Int):=if(jx text).1=.no then(.no,(jx text).2.1,(runT text).given)else((jx text).1,qao,[])
theorem qum{text:qc}{b:j5}{r:RunV}(hT:xy text b)(hp:z8 b.base b.batches=(.no,r)):qjl text=(.no,b,r.given):=by
 unfold qjl;rw[qrs hT hp,qsm hT hp];exact if_pos rfl
theorem q5a{b:j5}{bs:List (List qp)}{x:List qp}{r1:RunV}(hB:BkB b)(hb:b.batches=bs++[x])(h1:z8 b.base bs=(.no,r1)):GN r1.l∧GL r1.l∧LB 860000 r1.l∧LM r1.l∧LI r1.l∧qec b (bs.length:Nat)=(.no,r1):=by
 have hp:=qto h1;have hn:GN r1.l:=by have:=q6a b.base bs;rw[h1]at this;exact this
 have hl:GL r1.l:=by have:=zjq b.base bs hp;rw[h1]at this;exact this
 have d5:bs.length<=14000:=by have:=hB.len;rw[hb,Qg]at this;omega
 have ho:=quy b.base bs d5;rw[h1]at ho;refine⟨hn,hl,ho.1,ho.2.1,ho.2.2,?_⟩;have ht:b.batches.take bs.length=bs:=by rw[hb];simp
 unfold qec;rw[if_neg (by rw[hb];simp;omega)];simp only[Zd];rw[ht,h1]
theorem zkr{text:qc}(h:(qcc text).1=.no):(∀y∈(qcc text).2,EdB y)∧(qcc text).2.length<=5000∧∀y∈(qcc text).2,y.fields.length<=40:=by
 have hr:(jx text).1=.no:=by
  by_cases hr:(jx text).1=.no
  .exact hr
  .unfold qcc at h
   rw[if_neg hr]at h;exact absurd h hr
 obtain⟨b,r,hT,hp,he⟩:=qfm hr;have hB:=qen hT;by_cases hb:b.batches=[]
 .unfold qcc at h
  rw[he]at h;simp only[hb]at h;exact absurd h Sx
 .have sc:b.batches=b.batches.dropLast++[b.batches.getLast hb]:=(Zf hb).symm
  generalize b.batches.dropLast=bs at sc;generalize b.batches.getLast hb=x at sc;obtain⟨r1,h1,h2,h3,h4⟩:=q7g hT sc hp;obtain⟨hn,hl,rf,_⟩:=q5a hB sc h1;rw[h4];have hs:=zcw h1 h2;have hx:=(quy b.base (bs++[x]) (by rw[<-sc];exact hB.len)).1.nx1;rw[hs]at hx;simp only at hx;refine⟨znl hn hl h2 (by have:(qaf r1 x).l=(doF r1.l x).2.1:=rfl;rw[<-this];omega),?_,λy hy=>(qgv ((qcd (znb hn hl h2).1).2.2 y hy)).1⟩;obtain⟨g1,g2,g3⟩:=qvb h2
  show(qbo r1.l x).length<=5000
  unfold qbo;rw[qod,Zt,qjr];have:=(hB.bat x (by rw[sc];simp)).2;omega
end Go.Pl
namespace Go.Proofs.YtihlchbgjdkmpaaGreatDoor
open Go Go.Av Go.RowKit Go.Proofs Go.Pl
theorem q90(text:qc)(st:List AObj)(hl:text.length<1000000):qr E 41 [Sv text] st λr st'=>r=.tu [qbd (qjl text).2.1,qla (qjl text).2.2,errA (qjl text).1]∧st'=st:=by
 refine zj [.s text] (qad (qe9 _) (qiy _) (ku _)) Tryz.func41 rfl rfl (λ_=>rfl) rfl λS0=>?_;have ht:=λst=>zat text st hl;by_cases hr:(jx text).1=.no
 .obtain⟨b,r,hT,hp,he⟩:=qfm hr
  have hg:=λst=>zj8 b st (qen hT);rw[qum hT hp];rw[he]at ht;rw[hp,if_pos rfl]at hg;generalize r.l=l at ht;generalize r.given=g at hg;apply qf [];repeat' (first|apply Qa|(intro h;try exact cDd)|exact⟨Tryz.call9⟩|refine cpe ht ?_|exact⟨Tryz.call69⟩|refine cpe hg ?_|exact cSd|apply qd []|refine exr ?_|refine qg ?_)
 .unfold qjl
  rw[if_neg hr];generalize jx text=q at ht hr;obtain⟨e,b,l⟩:=q
  cases e with
  |no=>exact absurd rfl hr
  |num m=>
   apply qf []
   repeat' (first|apply Qa|(intro h;try exact cDd)|exact⟨Tryz.call9⟩|refine cpe ht ?_|exact cSd|apply qd []|refine exr ?_|refine qg ?_)
  |at' a m=>
   apply qf [];repeat' (first|apply Qa|(intro h;try exact cDd)|exact⟨Tryz.call9⟩|refine cpe ht ?_|exact cSd|apply qd []|refine exr ?_|refine qg ?_)
theorem zl4(text:qc)(st:List AObj)(hl:text.length<1000000):qr E 15 [Sv text] st λr st'=>r=.tu [zr (qcc text).2,errA (qcc text).1]∧st'=st:=by
 refine zj [.s text] (kc (qc6 _) (ku _)) Tryz.func15 rfl rfl (λ_=>rfl) rfl λS0=>?_;have p7:=λst=>q90 text st hl;by_cases hr:(jx text).1=.no
 .obtain⟨b,r,hT,hp,he⟩:=qfm hr
  have hB:=qen hT;rw[qum hT hp]at p7;dsimp only at p7;by_cases hb:b.batches=[]
  .have hu:qcc text=(.num 7,[]):=by
    unfold qcc;rw[he];simp only[hb];rfl
   rw[hu];have o0:(b.batches.map zr).length=0:=by rw[hb];rfl
   generalize r.given=g at p7;apply qf [];repeat' (first|apply Qa|(intro h;try exact cDd)|exact⟨Tryz.call41⟩|refine cpe p7 ?_|exact cSd|apply qd []|refine exr ?_|refine qg ?_)
  .have sc:b.batches=b.batches.dropLast++[b.batches.getLast hb]:=(Zf hb).symm
   generalize b.batches.dropLast=bs at sc;generalize b.batches.getLast hb=x at sc;obtain⟨r1,h1,h2,h3,h4⟩:=q7g hT sc hp;obtain⟨hn,mf,rf,hlm,hli,hbh⟩:=q5a hB sc h1;have o0:(b.batches.map zr).length=bs.length+1:=by rw[sc];simp
   have hix:(b.batches.map zr)[bs.length]?=some (zr x):=by rw[sc];simp
   have hBx:=(hB.bat x (by rw[sc];simp)).1;have bd:=λst=>q1i b (((b.batches.map zr).length:Nat)-1:Int) st hB;rw[show qec b (((b.batches.map zr).length:Nat)-1:Int)=(.no,r1)by rw[show(((b.batches.map zr).length:Nat)-1:Int)=((bs.length:Nat):Int)by omega];exact hbh]at bd;have dn:=hB.len;have hbm:(b.batches.map zr).length=b.batches.length:=Sx
   have hba:=λst=>zly r1.l x st rf hlm hli hn mf hBx.2 hBx.1;rw[if_pos h2,h2]at hba;rw[h4];generalize r.given=g at p7;generalize qbo r1.l x=bk at hba;generalize r1.l=q at hba bd;apply qf [];repeat' (first|apply Qa|(intro h;try exact cDd)|exact⟨Tryz.call41⟩|refine cpe p7 ?_|exact⟨Tryz.call10⟩|refine cpe bd ?_|(refine Qc (bs.length) ⟨Om,_,hix,?_⟩)|exact⟨Tryz.call42⟩|refine cpe hba ?_|exact cSd|apply qd []|refine exr ?_|refine qg ?_)
 .have hu:qcc text=((jx text).1,[]):=by unfold qcc;exact if_neg hr
  rw[hu];unfold qjl at p7;rw[if_neg hr]at p7;generalize(jx text).1=e at p7 hr
  cases e with
  |no=>exact absurd rfl hr
  |num m=>
   apply qf []
   repeat' (first|apply Qa|(intro h;try exact cDd)|exact⟨Tryz.call41⟩|refine cpe p7 ?_|exact cSd|apply qd []|refine exr ?_|refine qg ?_)
  |at' a m=>
   apply qf [];repeat' (first|apply Qa|(intro h;try exact cDd)|exact⟨Tryz.call41⟩|refine cpe p7 ?_|exact cSd|apply qd []|refine exr ?_|refine qg ?_)
theorem zfa(text:qc)(st:List AObj)(hl:text.length<1000000):qr E 11 [Sv text] st λr st'=>r=.tu [Sv (qhb text).2,errA (qhb text).1]∧st'=st:=by
 refine zj [.s text] (kc (qt _) (ku _)) Tryz.func11 rfl rfl (λ_=>rfl) rfl λS0=>?_;have hu:=λst=>zl4 text st hl;unfold qhb;have hok:=@zkr text;generalize qcc text=q at hu hok;obtain⟨e,x⟩:=q;dsimp only at hu hok⊢
 cases e with
 |no=>
  obtain⟨g1,g2,_⟩:=hok rfl;have hap:=λst=>zd6 text x st hl g1 Om;rw[if_pos rfl];generalize Go.Pl.appF text x=p at *;obtain⟨e2,t⟩:=p
  cases e2
  all_goals
   apply qf []
   repeat' (first|apply Qa|(intro h;try exact cDd)|exact⟨Tryz.call15⟩|refine cpe hu ?_|exact⟨Tryz.call34⟩|refine cpe hap ?_|exact cSd|apply qd []|refine exr ?_|refine qg ?_)
 |num m=>
  rw[if_neg Sx];apply qf []
  repeat' (first|apply Qa|(intro h;try exact cDd)|exact⟨Tryz.call15⟩|refine cpe hu ?_|exact cSd|apply qd []|refine exr ?_|refine qg ?_)
 |at' a m=>
  rw[if_neg Sx];apply qf [];repeat' (first|apply Qa|(intro h;try exact cDd)|exact⟨Tryz.call15⟩|refine cpe hu ?_|exact cSd|apply qd []|refine exr ?_|refine qg ?_)
end Go.Proofs.YtihlchbgjdkmpaaGreatDoor
namespace Go.Pl
open Go Go.Proofs Go.Av Go.Proofs.YtihlchbgjdkmpaaGreatDoor
@[reducible] def qar (e : qbn) : AV := .ag [Iv e.rep, Iv e.del, Iv e.ins, Iv e.first, Iv e.last, Iv e.bytes]
@[reducible] def logA (l : List qbn) : AV := .sl 6 (l.map qar) none
theorem q05(l:List qbn):Pure (logA l):=qaz λx hx=>by
 obtain⟨e,_,rfl⟩:=Qo.1 hx;intro y hy;simp only[AV.cells,Qe,Qk,or_false]at hy;rcases hy with rfl|rfl|rfl|rfl|rfl|rfl <;>exact qt _
theorem q78(e:qbn):Pure (qar e):=qak λy hy=>by
 simp only[AV.cells,Qe,Qk,or_false]at hy;rcases hy with rfl|rfl|rfl|rfl|rfl|rfl <;>exact qt _
def cnt1(b:List qp):Nat:=b.countP λx=>decide (x.kind=1)
def cnt2(b:List qp):Nat:=b.countP λx=>decide (x.kind=2)
def cnt3(b:List qp):Nat:=b.countP λx=> !decide (x.kind=1)&& !decide (x.kind=2)
theorem q33(b:List qp)(x:qp):cnt1 (b++[x])=cnt1 b+(if x.kind=1 then 1 else 0)∧cnt2 (b++[x])=cnt2 b+(if x.kind=2 then 1 else 0)∧cnt3 (b++[x])=cnt3 b+(if x.kind=1∨x.kind=2 then 0 else 1):=by
 unfold cnt1 cnt2 cnt3;simp only[List.countP_append,List.countP_cons,List.countP_nil,Zk];by_cases h1:x.kind=1
 .simp[h1]
 .by_cases h2:x.kind=2
  .simp[h1,h2]
  .simp[h1,h2]
theorem q32(b:List qp):cnt1 b<=b.length∧cnt2 b<=b.length∧cnt3 b<=b.length:=⟨Zo,Zo,Zo⟩
theorem qyu(b:List qp)(g:List Int)(n:Int):entF b g n=⟨cnt1 b,cnt2 b,cnt3 b,g.headD 0,g.getLastD 0,n⟩:=rfl
theorem qq8:∀(bs:List (List qp))(gs:List (List Int))(k:Nat)(x:List qp)(g:List Int),bs[k]?=some x->gs[k]?=some g->logL (bs.take (k+1)) (gs.take (k+1))=logL (bs.take k) (gs.take k)++[entF x g (recE x).length]
 | [],_,k,x,g,h,_=>by simp at h
 |y::bs,[],k,x,g,_,h=>by simp at h
 |y::bs,z::gs,0,x,g,h1,h2=>by
  simp only[Qm,Qd]at h1 h2;subst h1;subst h2
  rfl
 |y::bs,z::gs,k+1,x,g,h1,h2=>by
  simp only[Qf]at h1 h2;simp only[Xo,logL];rw[qq8 bs gs k x g h1 h2];rfl
theorem qwd:∀(b:List qp)(k:Nat)(l:qu)(ids:List Int),(kg k b l ids).2.2.length<=ids.length+b.length
 | [],_,_,_=>Qs _
 |x::r,k,l,ids=>by
  rw[kg];split
  .refine Xq (qwd r _ _ _) ?_
   split
   .simp only[Qg,Qh,Qv];omega
   .simp only[Qh];omega
  .simp only;omega
theorem zlv(l:qu)(b:List qp):(doF l b).2.2.length<=b.length:=by
 unfold doF;split
 .have:=qwd b 0 l []
  simpa using this
 .simp
theorem qrm{N:Nat}:∀(bs:List (List qp))(r r':RunV),z0 bs r=(.no,r')->(∀x∈bs,x.length<=N)->(∀g∈r.given,g.length<=N)->∀g∈r'.given,g.length<=N
 | [],r,r',h,_,hg=>by
  simp only[z0,Qj,true_and]at h;subst h
  exact hg
 |x::q,r,r',h,hb,hg=>by
  unfold z0 at h;split at h
  .refine qrm q _ _ h (λy hy=>hb y (by simp[hy])) λg hm=>?_
   have hm:g∈r.given++[(doF r.l x).2.2]:=hm;rcases Ql.1 hm with hm|hm
   .exact hg g hm
   .simp only[Qe,Qk,or_false]at hm
    subst hm;exact Xq (zlv _ _) (hb x Sx)
  .simp at h
theorem q0w{b:j5}{r:RunV}(hp:z8 b.base b.batches=(.no,r))(hB:BkB b){g:List Int}(hg:g∈r.given):g.length<1000000:=by
 unfold z8 at hp;split at hp
 .have:=qrm (N:=5000) b.batches _ r hp (λx hx=>(hB.bat x hx).2) Sx g hg
  omega
 .rename_i h
  simp only[Qj]at hp;exact absurd hp.1 h
theorem zbo{b:j5}{k:Nat}{x:List qp}(h:b.batches[k]?=some x):(qdj b (k+1)).length=(qdj b k).length+(recE x).length:=by
 unfold qdj;rw[Qq,h];simp only[Option.toList_some,qpf,Qg];omega
theorem qxl{text:qc}{b:j5}(hT:xy text b){k:Nat}{x:List qp}(h:b.batches[k]?=some x):(recE x).length<=120000:=by
 have h1:=zbo h;have h2:=congrArg List.length (q7w hT (k+1));rw[Xa]at h2;have:=hT.len;omega
structure EntB (e:qbn):Prop where
 rep:i64 e.rep
 del:i64 e.del
 ins:i64 e.ins
 bytes:i64 e.bytes
def qqs(i:Nat)(e:qbn):qc:=Lib.itoa i++[58,32,43]++Lib.itoa e.ins++[32,126]++Lib.itoa e.rep++[32,45]++Lib.itoa e.del++[32]++Lib.itoa e.bytes
def yz:Nat->List qbn->List qc
 |_,[]=>[]
 |k,e::r=>qqs k e::yz (k+1) r
theorem qiv:∀(l:List qbn)(k:Nat),(yz k l).length=l.length
 | [],_=>rfl
 |e::r,k=>by simp[yz,qiv r]
theorem qk2:∀(l:List qbn)(k:Nat)(e:qbn),yz k (l++[e])=yz k l++[qqs (k+l.length) e]
 | [],k,e=>by simp[yz]
 |x::r,k,e=>by
  rw[Zb,yz,qk2 r (k+1) e,yz,Qh,show k+1+r.length=k+(r.length+1)by omega];rfl
def ql9(a b c d:Int):List qc:=[[43]++Lib.itoa a,[126]++Lib.itoa b,[45]++Lib.itoa c,[]++Lib.itoa d]
theorem zb7(i:Nat)(e:qbn):Lib.itoa i++[58,32]++Lib.join (ql9 e.ins e.rep e.del e.bytes) [32]=qqs i e:=by
 simp[ql9,qqs,Lib.join,Xt]
theorem q0q{a b c d:Int}(ha:i64 a)(hb:i64 b)(hc:i64 c)(hd:i64 d):(Lib.join (ql9 a b c d) [32]).length<=1000:=by
 have h1:=qcs ha;have h2:=qcs hb;have h3:=qcs hc;have h4:=qcs hd;simp[ql9,Lib.join,Xt];omega
end Go.Pl
namespace Go.Proofs.YtihlchbgjdkmpaaGreatDoor
open Go Go.Av Go.RowKit Go.Proofs Go.Pl
theorem zis(b:List qp)(g:List Int)(n:Int)(st:List AObj)(hl:b.length<1000000)(hg:g.length<1000000):qr E 53 [zr b,wn g,Iv n] st λr st'=>r=qar (entF b g n)∧st'=st:=by
 refine zj [.a (zr b),.a (wn g),.i n] (q78 _) Tryz.func53 rfl rfl (λ_=>rfl) rfl λS0=>?_;rw[qyu];have o0:(b.map zz).length=b.length:=Sx
 apply qf [];repeat' (first|apply Qa|(intro h;try exact cDd)|exact cSd|apply qd []|refine exr ?_|refine qg ?_)
 refine zx (X:=Nat) (λk=>⟨[(1,.a (wn g)),(6,.bx 0 0),(7,.bx 1 0),(13,.a (zr b)),(14,.i b.length),(15,.i k)],[(0,some (.cells 63 [.i 0,.i 0,.i 0,.i 0,.i 0,.i 0])),(1,some (.cells 63 [.i (cnt1 (b.take k)),.i (cnt2 (b.take k)),.i (cnt3 (b.take k)),.i 0,.i 0,.i n]))],2⟩) (λk=>k<=b.length) (λk=>b.length-k) 0 Om ?_ ?_
 .skip
  repeat' (first|apply Qa|(intro h;try exact cDd)|exact cSd|apply qd []|refine exr ?_|refine qg ?_)
  all_goals first|rfl|(simp[cnt1,cnt2,cnt3];done)
 .rintro k hk
  by_cases e9:k<b.length
  .have hx:b[k]?=some b[k]:=Qb e9
   have i3:(b.map zz)[k]?=some (zz b[k]):=by rw[Qi,hx];rfl
   have i6:b.take (k+1)=b.take k++[b[k]]:=by rw[Qq,hx];rfl
   have d7:=q32 (b.take k);have sw:(b.take k).length=k:=So
   have bw:=q33 (b.take k) b[k];rw[<-i6]at bw;generalize b[k]=x at hx i3 bw;generalize cnt1 (b.take k)=a1 at *;generalize cnt2 (b.take k)=a2 at *;generalize cnt3 (b.take k)=a3 at *;obtain⟨q1,q2,q3⟩:=bw;apply qf [];repeat' (first|apply Qa|(intro h;try exact cDd)|(refine Qc (k) ⟨Om,_,i3,?_⟩)|(refine Qc (k+1) ⟨Om,Om,?_⟩)|exact cSd|apply qd []|refine exr ?_|refine qg ?_)
   all_goals first|rfl|(simp_all[SV.evs,SV.rens,SV.ren,SV.ev];done)
  .have e9:k=b.length:=by omega
   subst e9;rw[Za];have hmg:(g.map λx=>Iv x).length=g.length:=Sx
   by_cases h0:g=[]
   .subst h0
    apply qf [];repeat' (first|apply Qa|(intro h;try exact cDd)|exact cSd|apply qd []|refine exr ?_|refine qg ?_)
   .have nv:g=g.dropLast++[g.getLast h0]:=(Zf h0).symm
    generalize g.dropLast=a at nv;generalize g.getLast h0=z at nv;have mf:g.length=a.length+1:=by rw[nv];simp
    have hix:(g.map λx=>Iv x)[a.length]?=some (Iv z):=by rw[nv];simp
    have hz2:g.getLastD 0=z:=by rw[nv];simp
    have hi0:(g.map λx=>Iv x)[0]?=some (Iv (g.headD 0)):=by
     cases g with
     |nil=>exact absurd rfl h0
     |cons y r=>rfl
    rw[hz2];generalize g.headD 0=y at hi0;apply qf [];repeat' (first|apply Qa|(intro h;try exact cDd)|(refine Qc (0) ⟨Om,_,hi0,?_⟩)|(refine Qc (a.length) ⟨Om,_,hix,?_⟩)|exact cSd|apply qd []|refine exr ?_|refine qg ?_)
theorem ze8(text:qc)(st:List AObj)(hl:text.length<1000000):qr E 25 [Sv text] st λr st'=>r=.tu [logA (logH text).2,errA (logH text).1]∧st'=st:=by
 refine zj [.s text] (kc (q05 _) (ku _)) Tryz.func25 rfl rfl (λ_=>rfl) rfl λS0=>?_;have p7:=λst=>q90 text st hl;by_cases hr:(jx text).1=.no
 .obtain⟨b,r,hT,hp,he⟩:=qfm hr
  have hB:=qen hT;rw[qum hT hp]at p7;dsimp only at p7
  have hu:logH text=(.no,logL b.batches r.given):=by
   unfold logH;rw[qsm hT hp,he];exact if_pos rfl
  rw[hu];obtain⟨mf,hgr⟩:=qez hp;have e8:=λst=>ze9 b st hB hT;have o0:(b.batches.map zr).length=b.batches.length:=Sx
  have dn:=hB.len;apply qf [];repeat' (first|apply Qa|(intro h;try exact cDd)|exact⟨Tryz.call41⟩|refine cpe p7 ?_|exact⟨Tryz.call47⟩|refine cpe e8 ?_|exact cSd|apply qd []|refine exr ?_|refine qg ?_)
  refine zx (X:=Nat) (λk=>⟨[(4,.bx 0 0),(5,.a (qla r.given)),(7,.tp 1),(8,.a (wn (qfr b))),(23,.a (qbj b.batches)),(24,.i b.batches.length),(25,.i k)],[(0,some (.cells 26 [.i b.gen,.s b.base,.a (qbj b.batches),.a (wn b.ends),.s b.tail])),(1,some (.tip 6 63 ((logL (b.batches.take k) (r.given.take k)).map qar)))],2⟩) (λk=>k<=b.batches.length) (λk=>b.batches.length-k) 0 Om ?_ ?_
  .skip
   repeat' (first|apply Qa|(intro h;try exact cDd)|exact cSd|apply qd []|refine exr ?_|refine qg ?_)
   all_goals first|rfl|(simp[logL];done)
  .rintro k hk
   by_cases e9:k<b.batches.length
   .have hx:b.batches[k]?=some b.batches[k]:=Qb e9
    have i3:(b.batches.map zr)[k]?=some (zr b.batches[k]):=by rw[Qi,hx];rfl
    have hy:r.given[k]?=some (r.given[k]'(by omega)):=Qb Om;have hym:(r.given.map wn)[k]?=some (wn (r.given[k]'(by omega))):=by rw[Qi,hy];rfl
    have hBx:=(hB.bat _ (Qn e9)).1;obtain⟨p,bq,hp2⟩:=zdg hT hx;have hpm:((qfr b).map λx=>Iv x)[k]?=some (Iv (p:Int)):=by rw[Qi,bq];rfl
    have hem:(b.ends.map λx=>Iv x)[k]?=some (Iv ((p:Int)+(recE b.batches[k]).length)):=by rw[Qi,hp2];rfl
    have dj:=qxl hT hx;have hgk:(r.given[k]'(by omega)).length<1000000:=q0w hp hB (Qn _);have bw:=qq8 b.batches r.given k _ _ hx hy;have lj:(logL (b.batches.take k) (r.given.take k)).length=k:=by rw[qld _ _ So];simp;omega
    generalize r.given[k]'(by omega)=g at hy hym hgk bw;generalize b.batches[k]=x at hx i3 hBx hem bw dj;have bg:=λst=>zis x g ((recE x).length:Nat) st hBx.1 hgk;generalize(recE x).length=m at bg hem bw dj;have hmp:((m:Nat):Int)=(p:Int)+m-p:=Om
    rw[hmp]at bg bw;apply qf [];repeat' (first|apply Qa|(intro h;try exact cDd)|(refine Qc (k) ⟨Om,_,i3,?_⟩)|(refine Qc (k) ⟨Om,_,hym,?_⟩)|(refine Qc (k) ⟨Om,_,hem,?_⟩)|(refine Qc (k) ⟨Om,_,hpm,?_⟩)|exact⟨Tryz.call53⟩|refine cpe bg ?_|(refine Qc (k+1) ⟨Om,Om,?_⟩)|exact cSd|apply qd []|refine exr ?_|refine qg ?_)
    all_goals first|(rw[bw];simp;done)|(simp;omega)
   .have e9:k=b.batches.length:=by omega
    subst e9;rw[Za,<-mf,Za];rw[mf];apply qf [];repeat' (first|apply Qa|(intro h;try exact cDd)|exact cSd|apply qd []|refine exr ?_|refine qg ?_)
 .have hu:logH text=((jx text).1,[]):=by unfold logH;exact if_neg hr
  rw[hu];unfold qjl at p7;rw[if_neg hr]at p7;generalize(jx text).1=e at p7 hr
  cases e with
  |no=>exact absurd rfl hr
  |num m=>
   apply qf []
   repeat' (first|apply Qa|(intro h;try exact cDd)|exact⟨Tryz.call41⟩|refine cpe p7 ?_|exact cSd|apply qd []|refine exr ?_|refine qg ?_)
  |at' a m=>
   apply qf [];repeat' (first|apply Qa|(intro h;try exact cDd)|exact⟨Tryz.call41⟩|refine cpe p7 ?_|exact cSd|apply qd []|refine exr ?_|refine qg ?_)
theorem znz(a b c d:Int)(st:List AObj)(ha:i64 a)(hb:i64 b)(hc:i64 c)(hd:i64 d):qr E 55 [Sv [43,32,126,32,45,32],wn [a,b,c,d]] st λr st'=>r=Sv (Lib.join (ql9 a b c d) [32])∧st'=st:=by
 have r8:=λst=>zgv [43,32,126,32,45,32] st (by decide);have hsv:Lib.splitK [32] 0 (Lib.count ([43,32,126,32,45,32]:qc) [32]) [43,32,126,32,45,32]=[[43],[126],[45],[]]:=by decide +kernel
 rw[hsv]at r8;have hjo:=λst=>q48 (ql9 a b c d) none [32] st (by simp[ql9]) (by have:=q0q ha hb hc hd;omega)
 have hi:∀x∈[a,b,c,d],i64 x:=λx hx=>by
  simp only[Qe,Qk,or_false]at hx;rcases hx with rfl|rfl|rfl|rfl <;>assumption
 have hf:ql9 a b c d=Zs (λw n=>w++Lib.itoa n) [[43],[126],[45],[]] [a,b,c,d]:=rfl;rw[hf]at hjo⊢;generalize hws:([[43],[126],[45],[]]:List qc)=ws at *;generalize hns:[a,b,c,d]=ns at *;have hwl:ws.length=4:=by rw[<-hws];rfl
 have hwb:∀w∈ws,w.length<=1:=by rw[<-hws];decide
 have pk:ns.length=4:=by rw[<-hns];rfl
 clear hws hns hf hsv;refine zj [.s [43,32,126,32,45,32],.a (wn ns)] (qt _) Tryz.func55 rfl rfl (λ_=>rfl) rfl λS0=>?_;have o0:(ws.map λx=>Sv x).length=ws.length:=Sx
 have hmn:(ns.map λx=>Iv x).length=ns.length:=Sx
 apply qf [];repeat' (first|apply Qa|(intro h;try exact cDd)|exact⟨Tryz.call96⟩|refine cpe r8 ?_|exact cSd|apply qd []|refine exr ?_|refine qg ?_)
 refine zx (X:=Nat) (λk=>⟨[(1,.a (wn ns)),(5,.tp 0),(9,.a (.sl 1 (ws.map λx=>Sv x) none)),(10,.i ws.length),(11,.i k)],[(0,some (.tip 1 9 (((Zs (λw n=>w++Lib.itoa n) ws ns).take k).map λx=>Sv x)))],1⟩) (λk=>k<=ws.length) (λk=>ws.length-k) 0 Om ?_ ?_
 .skip
  repeat' (first|apply Qa|(intro h;try exact cDd)|exact cSd|apply qd []|refine exr ?_|refine qg ?_)
  all_goals first|rfl|(simp;done)
 .rintro k u6
  by_cases e9:k<ws.length
  .have hx:ws[k]?=some ws[k]:=Qb e9
   have i3:(ws.map λx=>Sv x)[k]?=some (Sv ws[k]):=by rw[Qi,hx];rfl
   have hy:ns[k]?=some (ns[k]'(by omega)):=Qb Om;have hym:(ns.map λx=>Iv x)[k]?=some (Iv (ns[k]'(by omega))):=by rw[Qi,hy];rfl
   have hii:=hi _ (Qn (show k<ns.length by omega))
   have bw:(Zs (λw n=>w++Lib.itoa n) ws ns).take (k+1)=(Zs (λw n=>w++Lib.itoa n) ws ns).take k++[ws[k]++Lib.itoa (ns[k]'(by omega))]:=by
    rw[Qq,List.getElem?_zipWith,hx,hy];rfl
   have mw:((Zs (λw n=>w++Lib.itoa n) ws ns).take k).length<=k:=So
   have hwk:=hwb _ (Qn e9);generalize ws[k]=w at hx i3 bw hwk;generalize ns[k]'(by omega)=n at hy hym hii bw;have dg:=qcs hii;unfold i64 at hii;have pj:=λst=>qlb n st hii.1 hii.2;apply qf [];repeat' (first|apply Qa|(intro h;try exact cDd)|(refine Qc (k) ⟨Om,_,i3,?_⟩)|(refine Qc (k) ⟨Om,_,hym,?_⟩)|exact⟨Tryz.call54⟩|refine cpe pj ?_|(refine Qc (k+1) ⟨Om,Om,?_⟩)|exact cSd|apply qd []|refine exr ?_|refine qg ?_)
   all_goals first|(rw[bw];simp;done)|(simp;omega)
  .have e9:k=ws.length:=by omega
   subst e9;rw[Qu So];apply qf [];repeat' (first|apply Qa|(intro h;try exact cDd)|exact⟨Tryz.call97⟩|refine cpe hjo ?_|exact cSd|apply qd []|refine exr ?_|refine qg ?_)
theorem zit(L:List qbn)(st:List AObj)(hl:L.length<1000000)(hB:∀e∈L,EntB e):qr E 28 [logA L] st λr st'=>r=qh2 (yz 0 L)∧st'=st:=by
 refine zj [.a (logA L)] (qt0 _) Tryz.func28 rfl rfl (λ_=>rfl) rfl λS0=>?_;have o0:(L.map qar).length=L.length:=Sx
 apply qf [];repeat' (first|apply Qa|(intro h;try exact cDd)|exact cSd|apply qd []|refine exr ?_|refine qg ?_)
 refine zx (X:=Nat) (λk=>⟨[(3,.tp 0),(6,.a (logA L)),(7,.i L.length),(8,.i k)],[(0,some (.tip 1 9 ((yz 0 (L.take k)).map λx=>Sv x)))],1⟩) (λk=>k<=L.length) (λk=>L.length-k) 0 Om ?_ ?_
 .skip
  repeat' (first|apply Qa|(intro h;try exact cDd)|exact cSd|apply qd []|refine exr ?_|refine qg ?_)
  all_goals first|rfl|(simp[yz];done)
 .rintro k hk
  by_cases e9:k<L.length
  .have hx:L[k]?=some L[k]:=Qb e9
   have i3:(L.map qar)[k]?=some (qar L[k]):=by rw[Qi,hx];rfl
   have bc:=hB _ (Qn e9);have i6:L.take (k+1)=L.take k++[L[k]]:=by rw[Qq,hx];rfl
   have sw:(L.take k).length=k:=So
   have bw:=qk2 (L.take k) 0 L[k];rw[<-i6,sw,Zk]at bw;have lj:=qiv (L.take k) 0;generalize L[k]=e at hx i3 bc bw;have hfg:=λst=>znz e.ins e.rep e.del e.bytes st bc.ins bc.rep bc.del bc.bytes;have pj:=λst=>qlb (k:Nat) st Om Om;have dg:=qbl k Om;have o7:=q0q bc.ins bc.rep bc.del bc.bytes;rw[<-zb7]at bw;apply qf [];repeat' (first|apply Qa|(intro h;try exact cDd)|(refine Qc (k) ⟨Om,_,i3,?_⟩)|exact⟨Tryz.call54⟩|refine cpe pj ?_|exact⟨Tryz.call55⟩|refine cpe hfg ?_|(refine Qc (k+1) ⟨Om,Om,?_⟩)|exact cSd|apply qd []|refine exr ?_|refine qg ?_)
   all_goals first|(rw[bw];simp;done)|(simp;omega)
  .have e9:k=L.length:=by omega
   subst e9;rw[Za];apply qf [];repeat' (first|apply Qa|(intro h;try exact cDd)|exact cSd|apply qd []|refine exr ?_|refine qg ?_)
end Go.Proofs.YtihlchbgjdkmpaaGreatDoor
