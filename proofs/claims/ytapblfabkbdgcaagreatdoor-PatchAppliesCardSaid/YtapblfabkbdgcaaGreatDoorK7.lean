/- Contracts and plain facts that the closing text leans on (part 7). No condition of their own beyond those that each states. -/
import Derived.Test.YtapblfabkbdgcaaGreatDoorK6
set_option maxRecDepth 100000
set_option linter.unusedVariables false
set_option linter.unusedSimpArgs false
open And renaming intro→Qa
open Exists renaming intro→Qb
open Int renaming toNat_natCast→Qm
open List renaming getElem?_eq_getElem→Qc,length_append→Qd,getElem?_map→Qe,drop_eq_getElem_cons→Qf,take_append_drop→Qg,mem_append→Qh,length_cons→Qi,length_map→Qj,mem_cons→Qk,getElem?_set_ne→Ql,drop_eq_nil_of_le→Qn,append_nil→Qp,take_add_one→Qq,length_nil→Qr,map_append→Qs,drop_length→Qu,not_mem_nil→Qv,append_assoc→Qw,getElem_mem→Qx,mem_of_mem_take→Qy,mem_of_mem_drop→Qz,getElem?_append_left→Za,nil_append→Zb,getElem?_eq_some_iff→Zc,mem_singleton→Zd,take_of_length_le→Ze,map_cons→Zf,length_take→Zg,length_drop→Zh,cons_append→Zi,take_length→Zj,flatMap_nil→Zk,mem_of_getElem?→Zl,foldl_cons→Zm,take_left→Zn,map_take→Zo,map_drop→Zp,mem_or_eq_of_mem_set→Zq,mem_map→Zr,drop_append→Zs,map_nil→Zt,length_eq_zero_iff→Zu,flatMap_cons→Xa,countP_cons→Xb,take_append→Xc,drop_left→Xd,set_set→Xe
open Nat renaming le_of_ble_eq_true→Qo,min_eq_left→Zv,le_refl→Zw,add_sub_cancel→Zy
open Option renaming toList_some→Zz
open Option.some renaming injEq→Qt
open Prod renaming ext→Xf
open Prod.mk renaming injEq→Zx
namespace Go.Pl
open Go Go.Proofs
def qsz(fs:List Fld):qd:=if zo fs=.no then zu fs else []
def wd(fs:List Fld):qx:=if zo fs=.no then⟨3,zu fs,fs⟩else⟨0,[],[]⟩
def zw(its:List qx):qd:=its.flatMap λx=>x.raw
theorem qai(a b:List qx):zw (a++b)=zw a++zw b:=by simp[zw]
theorem qa1(x:qx):zw [x]=x.raw:=by simp[zw]
def je(prev:Bool):List qx->List qx
 | []=>[]
 |x::r=>(if prev=true∧x.kind≠1 then [⟨1,[10],[]⟩,x]else [x])++je (decide (x.kind≠1)) r
def wn(its:List qx):List qx:=je false its
def zm(l:qo):List qx:=l.ents.map λe=>e.x
def xd(l:qo):qd:=zw (wn (zm l))
end Go.Pl
namespace Go.Proofs.YtapblfabkbdgcaaGreatDoor
open Go Go.Av Go.RowKit Go.Proofs Go.Pl
theorem q7j(fs:List Fld)(st:List AObj)(hK:KeyB fs)(hl:fs.length<9223372036854775808):ql E 197 [q6 fs] st λr st'=>r=.tu [Sv (qsz fs),errA (zo fs)]∧st'=st:=by
 refine q5 [.a (q6 fs)] (xw (qt _) (v6 _)) Tryz.func197 rfl rfl (λ_=>rfl) rfl λS0=>?_
 unfold qsz
 cases he:zo fs with
 |no=>
  rw[if_pos rfl]
  have h1:=λst=>qj9 fs st _ he hK hl
  obtain⟨_,h3,h4⟩:=qa4 he
  have h2:=λst=>q3u fs st h3 h4
  apply qe []
  repeat' (first|apply Qa|(intro h;try exact cDd)|exact⟨Tryz.call141⟩|refine cpe h1 ?_|exact⟨Tryz.call64⟩|refine cpe h2 ?_|exact cSd|apply qc []|refine exr ?_|refine qf ?_)
 |num n=>
  rw[if_neg Sx]
  have h1:=λst=>qj9 fs st _ he hK hl
  apply qe []
  repeat' (first|apply Qa|(intro h;try exact cDd)|exact⟨Tryz.call141⟩|refine cpe h1 ?_|exact cSd|apply qc []|refine exr ?_|refine qf ?_)
 |at' a n=>
  rw[if_neg Sx]
  have h1:=λst=>qj9 fs st _ he hK hl
  apply qe []
  repeat' (first|apply Qa|(intro h;try exact cDd)|exact⟨Tryz.call141⟩|refine cpe h1 ?_|exact cSd|apply qc []|refine exr ?_|refine qf ?_)
theorem q16(fs:List Fld)(st:List AObj)(hK:KeyB fs)(hl:fs.length<1000000):ql E 169 [q6 fs] st λr st'=>r=.tu [jh (wd fs),errA (zo fs)]∧st'=st:=by
 refine q5 [.a (q6 fs)] (xw (qbi (qe0 _)) (v6 _)) Tryz.func169 rfl rfl (λ_=>rfl) rfl λS0=>?_
 have h1:=λst=>q7j fs st hK Om
 have h2:=λst=>qa5 fs st hl
 unfold qsz at h1
 unfold wd
 cases he:zo fs with
 |no=>
  rw[he,if_pos rfl]at h1
  rw[if_pos rfl]
  apply qe []
  repeat' (first|apply Qa|(intro h;try exact cDd)|exact⟨Tryz.call197⟩|refine cpe h1 ?_|exact⟨Tryz.call91⟩|refine cpe h2 ?_|exact cSd|apply qc []|refine exr ?_|refine qf ?_)
 |num n=>
  rw[he,if_neg Sx]at h1
  rw[if_neg Sx]
  apply qe []
  repeat' (first|apply Qa|(intro h;try exact cDd)|exact⟨Tryz.call197⟩|refine cpe h1 ?_|exact cSd|apply qc []|refine exr ?_|refine qf ?_)
 |at' a n=>
  rw[he,if_neg Sx]at h1
  rw[if_neg Sx]
  apply qe []
  repeat' (first|apply Qa|(intro h;try exact cDd)|exact⟨Tryz.call197⟩|refine cpe h1 ?_|exact cSd|apply qc []|refine exr ?_|refine qf ?_)
theorem q84(x:qx)(st:List AObj)(hl:x.fields.length<1000000):ql E 132 [jh x] st λr st'=>r=jh x∧st'=st:=by
 refine q5 [.a (jh x)] (qbi (qe0 _)) Tryz.func132 rfl rfl (λ_=>rfl) rfl λS0=>?_
 have h2:=λst=>qa5 x.fields st hl
 apply qe [1]
 repeat' (first|apply Qa|(intro h;try exact cDd)|exact⟨Tryz.call91⟩|refine cpe h2 ?_|exact cSd|apply qc [1]|refine exr ?_|refine qf ?_)
structure ItsB (its:List qx):Prop where
 len:its.length<=1000000
 fld:∀x∈its,x.fields.length<1000000
theorem qk6(prev:Bool):∀its:List qx,(je prev its).length<=2*its.length
 | []=>by simp[je]
 |x::r=>by
  have ih:=qk6 (decide (x.kind≠1)) r
  unfold je
  split <;>simp only[Qd,Qi,Qr]<;>omega
theorem q99(its:List qx)(st:List AObj)(hB:ItsB its):ql E 90 [jm its] st λr st'=>r=jm (wn its)∧st'=st:=by
 refine q5 [.a (jm its)] (x3 _) Tryz.func90 rfl rfl (λ_=>rfl) rfl λS0=>?_
 have hln:=hB.len
 apply qe []
 repeat' (first|apply Qa|(intro h;try exact cDd)|exact cSd|apply qc []|refine exr ?_|refine qf ?_)
 refine zl (X:=Nat×List qx) (λ(k,out)=>⟨[(0,.a (jm its)),(3,.tp 0),(6,.a (jm its)),(7,.i its.length),(8,.i k)],[(0,some (.tip 3 107 (out.map jh)))],1⟩)
  (λ(k,out)=>k<=its.length∧out.length<=2*k∧∃prev,(prev=true↔∃y,0<k∧its[k-1]?=some y∧y.kind≠1)∧out++je prev (its.drop k)=wn its) (λ(k,out)=>its.length-k) (0,[]) ⟨Om,Sx,false,Sx,rfl⟩ ?_ ?_
 .skip
  repeat' (first|apply Qa|(intro h;try exact cDd)|exact cSd|apply qc []|refine exr ?_|refine qf ?_)
  all_goals (simp;done)
 .rintro⟨k,out⟩ ⟨hk,hol,prev,hpv,hrun⟩
  by_cases hkn:k<its.length
  .have hx:its[k]?=some its[k]:=Qc hkn
   have hxm:(its.map jh)[k]?=some (jh its[k]):=by rw[Qe,hx];rfl
   have hxf:=hB.fld its[k] (Qx hkn)
   rw[Qf hkn,je]at hrun
   generalize its[k]=x at hx hxm hrun hxf
   have hcp:=λst=>q84 x st hxf
   have hml:(out.map jh).length=out.length:=Sx
   have hnext:(decide (x.kind≠1)=true↔∃y,0<k+1∧its[k+1-1]?=some y∧y.kind≠1):=by
    rw[decide_eq_true_iff,Zy,hx]
    constructor
    .intro h
     exact⟨x,Om,rfl,h⟩
    .rintro⟨y,_,h1,h2⟩
     simp only[Qt]at h1
     rw[h1]
     exact h2
   by_cases hk0:k=0
   .have hp:¬(prev=true):=λh=>by
     obtain⟨_,h,_⟩:=hpv.1 h
     omega
    rw[if_neg (λh=>hp h.1)]at hrun
    apply qe []
    repeat' (first|apply Qa|(intro h;try exact cDd)|(refine Qb (k) ⟨Om,_,hxm,?_⟩)|exact⟨Tryz.call132⟩|refine cpe hcp ?_|(refine Qb (k+1,out++[x]) ⟨⟨Om,So,_,hnext,by rw[<-hrun];simp⟩,by simp only;omega,?_⟩)|exact cSd|apply qc []|refine exr ?_|refine qf ?_)
    all_goals first|(simp[SV.evs,SV.ev];done)|(simp[SV.evs];omega)
   .obtain⟨y,hy⟩:∃y,its[k-1]?=some y:=⟨_,Qc (by omega:k-1<its.length)⟩
    have hym:(its.map jh)[k-1]?=some (jh y):=by rw[Qe,hy];rfl
    have hpy:(prev=true↔y.kind≠1):=by
     rw[hpv]
     constructor
     .rintro⟨z,_,h1,h2⟩
      rw[hy]at h1
      simp only[Qt]at h1
      rw[h1]
      exact h2
     .exactλh=>⟨y,Om,hy,h⟩
    by_cases hb:x.kind≠1∧y.kind≠1
    .rw[if_pos ⟨hpy.2 hb.2,hb.1⟩]at hrun
     obtain⟨hb1,hb2⟩:=hb
     apply qe []
     repeat' (first|apply Qa|(intro h;try exact cDd)|(refine Qb (k) ⟨Om,_,hxm,?_⟩)|(refine Qb (k-1) ⟨Om,_,hym,?_⟩)|exact⟨Tryz.call132⟩|refine cpe hcp ?_|(refine Qb (k+1,out++[⟨1,[10],[]⟩,x]) ⟨⟨Om,So,_,hnext,by rw[<-hrun];simp⟩,by simp only;omega,?_⟩)|exact cSd|apply qc []|refine exr ?_|refine qf ?_)
     all_goals first|(simp[SV.evs,SV.ev];done)|(simp[SV.evs];omega)
    .rw[if_neg (λh=>hb ⟨h.2,hpy.1 h.1⟩)]at hrun
     apply qe []
     repeat' (first|apply Qa|(intro h;try exact cDd)|(refine Qb (k) ⟨Om,_,hxm,?_⟩)|(refine Qb (k-1) ⟨Om,_,hym,?_⟩)|exact⟨Tryz.call132⟩|refine cpe hcp ?_|(refine Qb (k+1,out++[x]) ⟨⟨Om,So,_,hnext,by rw[<-hrun];simp⟩,by simp only;omega,?_⟩)|exact absurd ⟨by assumption,by assumption⟩ hb|exact cSd|apply qc []|refine exr ?_|refine qf ?_)
     all_goals first|(simp[SV.evs,SV.ev];done)|(simp[SV.evs];omega)
  .have hkn:k=its.length:=by omega
   subst hkn
   rw[Qu,je,Qp]at hrun
   rw[<-hrun]
   apply qe []
   repeat' (first|apply Qa|(intro h;try exact cDd)|exact cSd|apply qc []|refine exr ?_|refine qf ?_)
theorem zd7(its:List qx)(st:List AObj)(hl:its.length<=4000000)(hr:(zw its).length<=1000000000000):ql E 89 [jm its] st λr st'=>r=Sv (zw its)∧st'=st:=by
 refine zr (qt _) (qy Tryz.func89 rfl (Qo rfl) ?_)
 have hml:(its.map jh).length=its.length:=Sx
 repeat' (first|(apply qm8;exact rfl)|apply qp|apply q8|apply qj|apply qi|apply qm|apply qk|(apply js;(iterate 4 exact rfl)))
 refine qdl its (λpre s=>∃q,(q=.v (.pointer none)∨q=.bx (st.length+0) 0 0)∧StE [(3,.bx (st.length+0) 0 0),(6,jm its),(7,Iv its.length),(8,Iv pre.length)] st [bldO 0 q (zw pre) (st.length+1),.tip (zw pre).length 1 5] s) ⟨_,.inl rfl,qgo ⟨rfl,rfl,congrArg (λn:Nat=>Iv (n:Int)) hml,rfl,trivial⟩ rfl⟩ ?_ ?_
 .rintro _ ⟨q,hq,t,ext,rfl⟩
  repeat' (first|apply qp|apply qj|apply qi|apply qk|(apply qz;(iterate 3 exact rfl))|(apply qh;exact rfl;apply yi;exact cAo)|apply kh|apply zg|(refine zf Tryz.call62 (qne st _ _ _ _ 0 1 0 _ _ rfl rfl rfl) ?_))
  exact qs rfl (zj rfl) ⟨rfl,qcm _ _ _ _⟩
 .rintro pre x rest _ hre ⟨q,hq,t,ext,rfl⟩
  have hlen:its.length=pre.length+(rest.length+1):=by rw[hre];simp
  have hget:(its.map jh)[pre.length]?=some (jh x):=by rw[hre];simp
  have hrl:(zw pre).length+x.raw.length<=1000000000000:=by
   have e:x::rest=[x]++rest:=rfl
   rw[hre,qai,e,qai,qa1]at hr
   simp only[Qd]at hr
   omega
  repeat' (first|apply qp|apply q8|apply qj|apply qi|(apply qz;(iterate 3 exact rfl))|(apply qh;exact rfl;apply xc;exact cAo)|(apply wh;exact rfl;exact rfl)|(apply jk;(iterate 3 exact rfl))|(apply kg;(iterate 3 exact rfl))|(apply kw;(iterate 5 exact rfl))|(apply vf;(iterate 11 exact rfl))|apply za|(apply wi (n:=pre.length);(iterate 5 exact rfl);exact hget))
  refine zf Tryz.call65 (qpy st _ _ _ _ 0 1 0 _ _ _ rfl rfl ?_ ?_ rfl) ?_;(exact hq);(omega)
  repeat' (first|apply qj|apply qi|apply qm|(apply ja;exact rfl;exact rfl;exact zp Om Om))
  refine⟨_,.inr rfl,qc3 ⟨rfl,rfl,rfl,?_,trivial⟩ ?_⟩
  .rw[qcd pre x];rfl
  .rw[qai,qa1];rfl
theorem zal(its:List qx)(st:List AObj)(hB:ItsB its)(hr:(zw (wn its)).length<=1000000000000):ql E 52 [jm its] st λr st'=>r=Sv (zw (wn its))∧st'=st:=by
 refine q5 [.a (jm its)] (qt _) Tryz.func52 rfl rfl (λ_=>rfl) rfl λS0=>?_
 have h1:=λst=>q99 its st hB
 have hal:=qk6 false its
 have hln:=hB.len
 have h2:=λst=>zd7 (wn its) st (by unfold wn;omega) hr
 apply qe []
 repeat' (first|apply Qa|(intro h;try exact cDd)|exact⟨Tryz.call90⟩|refine cpe h1 ?_|exact⟨Tryz.call89⟩|refine cpe h2 ?_|exact cSd|apply qc []|refine exr ?_|refine qf ?_)
theorem q9u(l:qo)(st:List AObj)(hB:ItsB (zm l)):ql E 53 [vc l] st λr st'=>r=jm (zm l)∧st'=st:=by
 refine q5 [.a (vc l)] (x3 _) Tryz.func53 rfl rfl (λ_=>rfl) rfl λS0=>?_
 have hln:=hB.len
 have hil:(zm l).length=l.ents.length:=by simp[zm]
 apply qe []
 repeat' (first|apply Qa|(intro h;try exact cDd)|exact cSd|apply qc []|refine exr ?_|refine qf ?_)
 refine zl (X:=Nat) (λk=>⟨[(3,.tp 0),(12,.a (.sl 4 (l.ents.map entA) none)),(13,.i l.ents.length),(14,.i k)],[(0,some (.tip 3 107 (((zm l).take k).map jh)))],1⟩)
  (λk=>k<=l.ents.length) (λk=>l.ents.length-k) 0 Om ?_ ?_
 .skip
  repeat' (first|apply Qa|(intro h;try exact cDd)|exact cSd|apply qc []|refine exr ?_|refine qf ?_)
  all_goals (simp;done)
 .rintro k hk
  by_cases hkn:k<l.ents.length
  .have hx:l.ents[k]?=some l.ents[k]:=Qc hkn
   have hxm:(l.ents.map entA)[k]?=some (entA l.ents[k]):=by rw[Qe,hx];rfl
   have hxi:(zm l)[k]?=some l.ents[k].x:=by unfold zm;rw[Qe,hx];rfl
   have hxf:=hB.fld l.ents[k].x (Zl hxi)
   have htk:(zm l).take (k+1)=(zm l).take k++[l.ents[k].x]:=by rw[Qq,hxi];rfl
   have htl:(((zm l).take k).map jh).length<=k:=So
   generalize l.ents[k]=e at hx hxm hxi hxf htk
   have hcp:=λst=>qa5 e.x.fields st hxf
   apply qe []
   repeat' (first|apply Qa|(intro h;try exact cDd)|(refine Qb (k) ⟨Om,_,hxm,?_⟩)|exact⟨Tryz.call91⟩|refine cpe hcp ?_|(refine Qb (k+1) ⟨Om,Om,?_⟩)|exact cSd|apply qc []|refine exr ?_|refine qf ?_)
   all_goals first|(rw[htk];simp;done)|(simp[SV.evs];omega)
  .have hkn:k=l.ents.length:=by omega
   subst hkn
   have e:(zm l).take l.ents.length=zm l:=Ze Om
   rw[e]
   apply qe []
   repeat' (first|apply Qa|(intro h;try exact cDd)|exact cSd|apply qc []|refine exr ?_|refine qf ?_)
theorem q1y(l:qo)(st:List AObj)(hB:ItsB (zm l))(hr:(xd l).length<=1000000000000):ql E 28 [vc l] st λr st'=>r=Sv (xd l)∧st'=st:=by
 refine q5 [.a (vc l)] (qt _) Tryz.func28 rfl rfl (λ_=>rfl) rfl λS0=>?_
 have h1:=λst=>q9u l st hB
 have h2:=λst=>zal (zm l) st hB hr
 apply qe []
 repeat' (first|apply Qa|(intro h;try exact cDd)|exact⟨Tryz.call53⟩|refine cpe h1 ?_|exact⟨Tryz.call52⟩|refine cpe h2 ?_|exact cSd|apply qc []|refine exr ?_|refine qf ?_)
theorem qgv(es:List EntV):∀x∈es.map entA,x.cells.length=4:=λx hx=>by
 obtain⟨e,_,rfl⟩:=Zr.1 hx
 rfl
theorem qb3(es:List EntV):(flat (es.map entA)).length=es.length*4:=by
 rw[zk (qgv es),Qj]
theorem qfc(a b:List EntV):flat ((a++b).map entA)=flat (a.map entA)++flat (b.map entA):=by rw[Qs,va]
theorem qcw(A B xs:List AV){off:Nat}(h:A.length=off):zt (A++B) off xs=A++xs++B.drop xs.length:=by
 unfold zt
 rw[<-h,Zn,Zs,Qn Om]
 simp
theorem qgc{cs xs:List AV}{off:Nat}(h:off+xs.length<=cs.length):(zt cs off xs).length=cs.length:=by
 unfold zt
 simp
 omega
theorem zf5(es:List EntV)(i:Nat)(hi:i<es.length)(hl:es.length<1000000)(st:List AObj)(c:AV)(hc:OwnS st 4 109 (es.map entA) c):ql E 170 [c,Iv i,Iv ((i:Int)+1)] st λr st'=>OwnR 4 109 ((es.take i++es.drop (i+1)).map entA) st c r st':=by
 have hml:(es.map entA).length=es.length:=Sx
 rcases hc with⟨h0,_⟩|⟨o,ver,cap,pad,rfl,e2,e3,e4,e5,e6⟩
 .rw[h0]at hml
  simp at hml
  omega
 rw[hml]at e5⊢
 have hlt:=lt_of_getElem? e2
 have hfl:=qb3 es
 have hsplit:flat (es.map entA)++pad=flat ((es.take i).map entA)++(flat ((es.drop i).map entA)++pad):=by
  rw[<-Qw,<-qfc,Qg]
 have ht4:(flat ((es.take i).map entA)).length=i*4:=by rw[qb3,Zg,Zv Om]
 have hd4:(flat ((es.drop (i+1)).map entA)).length=(es.length-(i+1))*4:=by rw[qb3,Zh]
 obtain⟨B1,hB1⟩:∃B1,(flat ((es.drop i).map entA)++pad).drop (flat ((es.drop (i+1)).map entA)).length=B1:=⟨_,rfl⟩
 have hsp:zt (flat (es.map entA)++pad) (i*4) (flat ((es.drop (i+1)).map entA))=flat ((es.take i++es.drop (i+1)).map entA)++B1:=by
  rw[hsplit,qcw _ _ _ ht4,qfc,hB1]
 have hsl:(flat ((es.take i++es.drop (i+1)).map entA)++B1).length=(cap+1)*4:=by
  rw[<-hsp,qgc (by rw[e3,hd4];omega),e3]
 have hel:(es.take i++es.drop (i+1)).length=es.length-1:=So
 -- what is appended
 obtain⟨q,hq⟩:∃q,(if cap+1=i+1 then 0 else 0+(i+1)*4)=q:=⟨_,rfl⟩
 have hqz:((flat (es.map entA)++pad).drop q).take ((es.length-(i+1))*4)=flat ((es.drop (i+1)).map entA)∧q+(es.length-(i+1))*4<=(flat (es.map entA)++pad).length:=by
  rw[e3]
  by_cases hci:cap+1=i+1
  .have:es.length-(i+1)=0:=by omega
   rw[if_pos hci]at hq
   rw[this,<-hq,Qn (by omega:es.length<=i+1)]
   exact⟨by simp[flat],Om⟩
  .rw[if_neg hci]at hq
   rw[<-hq]
   refine⟨?_,Om⟩
   have e:flat (es.map entA)++pad=flat ((es.take (i+1)).map entA)++(flat ((es.drop (i+1)).map entA)++pad):=by
    rw[<-Qw,<-qfc,Qg]
   have e':(flat ((es.take (i+1)).map entA)).length=0+(i+1)*4:=by rw[qb3,Zg,Zv Om];omega
   rw[e,<-e',Xd,<-hd4,Zn]
 have hsrc:SrcA st 4 (.os o ver q (es.length-(i+1)) (cap+1-(i+1))) (es.length-(i+1)) (es.length-(i+1)) (flat ((es.drop (i+1)).map entA)):=by
  have:=SrcA.os (st:=st) (sz:=4) o ver q (es.length-(i+1)) (cap+1-(i+1)) (es.length-(i+1)) _ _ e2 hqz.2 (by rw[hqz.1];exact qd0 λ_=>rfl)
  rw[hqz.1]at this
  exact this
 refine qy Tryz.func170 rfl (Qo rfl) ?_
 rw[Qp]
 repeat' (first|(refine zv (sz:=4) (i:=i) (j:=i+1) (m:=es.length) rfl rfl rfl ?_ ?_ ?_ ?_ ?_ ?_ ?_;exact⟨_,rfl⟩;exact⟨_,rfl⟩;exact⟨_,rfl⟩;omega;omega;omega)|apply qp|apply qj|apply qi|apply qm|apply qk|(apply qz;(iterate 3 exact rfl))|(apply qh;exact rfl;apply yi;exact cAo)|(apply js;(iterate 4 exact rfl))|apply za)
 refine qsb (λs=>StA [(0,.os o ver 0 (i+(es.length-(i+1))) (cap+1)),(7,Iv es.length)] (st.set o (.cells ver 109 (flat ((es.take i++es.drop (i+1)).map entA)++B1))) [] s) ?_ ?_
 .refine qhp rfl rfl ?_
  (apply xi 0;exact rfl;kernel_rfl;kernel_rfl;kernel_rfl;exact rfl;exact yb)
  (apply xi 1;exact rfl;kernel_rfl;kernel_rfl;kernel_rfl;exact rfl;exact yb)
  (apply xi 3;exact rfl;kernel_rfl;kernel_rfl;kernel_rfl;exact rfl;exact yb)
  (apply xi 4;exact rfl;kernel_rfl;kernel_rfl;kernel_rfl;exact rfl;exact yb)
  refine v7 [2,5] Kr rfl ⟨⟨_,rfl,?_⟩,⟨_,rfl,?_⟩,trivial⟩
  ·(refine zv (sz:=4) (i:=0) (j:=i) (m:=cap+1) rfl rfl rfl ?_ ?_ ?_ ?_ ?_ ?_ ?_;exact rfl;exact⟨_,rfl⟩;exact rfl;omega;omega;omega)
   apply qi
   refine v7 [5] Kr rfl ⟨⟨_,rfl,?_⟩,trivial⟩
   (refine zv (sz:=4) (i:=i+1) (j:=es.length) (m:=cap+1) rfl rfl rfl ?_ ?_ ?_ ?_ ?_ ?_ ?_;exact⟨_,rfl⟩;exact⟨rfl,rfl⟩;exact rfl;omega;omega;omega;rw[hq])
   apply qi
   refine v7 [6] Kr rfl ⟨⟨_,rfl,?_⟩,trivial⟩
   (refine qks (bytes:=56) (o:=o) (ver:=ver) (n:=i) (cap:=cap+1) (m:=es.length-(i+1)) (cs:=flat (es.map entA)++pad) rfl rfl e2 hsrc rfl rfl ⟨⟨_,_,rfl,rfl,rfl,rfl,rfl⟩⟩ Om e3 ?_;rw[hsp])
   apply qi
   (apply xi 7;exact rfl;kernel_rfl;kernel_rfl;kernel_rfl;exact rfl;exact qtd)
   refine qbk Kr ?_
   exact jx ⟨rfl,rfl,trivial⟩
  ·(refine zv (sz:=4) (i:=i+1) (j:=es.length) (m:=cap+1) rfl rfl rfl ?_ ?_ ?_ ?_ ?_ ?_ ?_;exact⟨_,rfl⟩;exact⟨rfl,rfl⟩;exact rfl;omega;omega;omega;rw[hq])
   apply qi
   refine v7 [2] Kr rfl ⟨⟨_,rfl,?_⟩,trivial⟩
   (refine zv (sz:=4) (i:=0) (j:=i) (m:=cap+1) rfl rfl rfl ?_ ?_ ?_ ?_ ?_ ?_ ?_;exact rfl;exact⟨_,rfl⟩;exact rfl;omega;omega;omega)
   apply qi
   refine v7 [6] Kr rfl ⟨⟨_,rfl,?_⟩,trivial⟩
   (refine qks (bytes:=56) (o:=o) (ver:=ver) (n:=i) (cap:=cap+1) (m:=es.length-(i+1)) (cs:=flat (es.map entA)++pad) rfl rfl e2 hsrc rfl rfl ⟨⟨_,_,rfl,rfl,rfl,rfl,rfl⟩⟩ Om e3 ?_;rw[hsp])
   apply qi
   (apply xi 7;exact rfl;kernel_rfl;kernel_rfl;kernel_rfl;exact rfl;exact qtd)
   refine qbk Kr ?_
   exact jx ⟨rfl,rfl,trivial⟩
 .rintro _ ⟨t,rfl⟩
  have hob:(st.set o (AObj.cells ver 109 (flat ((es.take i++es.drop (i+1)).map entA)++B1)))[o]?=some (.cells ver 109 (flat ((es.take i++es.drop (i+1)).map entA)++B1)):=kp e2
  have hqq:(if cap+1=i+(es.length-(i+1))then 0 else 0+(i+(es.length-(i+1)))*4)=(es.length-1)*4:=by
   rw[if_neg Om]
   omega
  have hfe:(flat ((es.take i++es.drop (i+1)).map entA)).length=(es.length-1)*4:=by rw[qb3,hel]
  repeat' (first|(refine zv (sz:=4) (i:=i+(es.length-(i+1))) (j:=es.length) (m:=cap+1) rfl rfl rfl ?_ ?_ ?_ ?_ ?_ ?_ ?_;exact⟨_,rfl⟩;exact⟨_,rfl⟩;exact rfl;omega;omega;omega;rw[hqq])|(refine qwd (sz:=4) (bytes:=56) rfl hob rfl ⟨⟨_,_,rfl,rfl,rfl,rfl,rfl⟩⟩ rfl (by rw[hsl];omega) λzs hz=>?_)|apply qp|apply qj|apply qi|apply qm|apply qk|(apply js;(iterate 4 exact rfl))|apply zg)
  refine qs rfl (zj rfl) ?_
  show OwnR 4 109 _ st _ (.os o ver 0 (i+(es.length-(i+1))) (cap+1)) ((st.set o _).set o (.cells ver 109 (zt (flat ((es.take i++es.drop (i+1)).map entA)++B1) ((es.length-1)*4) zs)))
  rw[Xe,qcw _ _ _ hfe,Qw]
  have hB1l:(es.length-1)*4+B1.length=(cap+1)*4:=by rw[<-hfe,<-Qd];exact hsl
  have hzl:zs.length=4:=by rw[hz];omega
  refine⟨.inr ⟨o,ver,cap,zs++B1.drop zs.length,?_,kp e2,?_,qgv _,?_,e6⟩,Sx,λj hj hne=>Ql λe=>hne (by rw[e];rfl),λo' ho'=>.inr ho'⟩
  .rw[Qj,hel]
   congr 1
   omega
  .rw[Qd,Qd,Zh,hfe,hzl]
   omega
  .rw[Qj,hel]
   omega
theorem zd3(e:EntV)(st:List AObj)(c:AV)(hnr:qbe c):ql E 171 [c,Iv 0,.sl 4 [entA e] none] st λr st'=>OwnR 4 109 [entA e] st c r st':=by
 refine qy Tryz.func171 rfl (Qo rfl) ?_
 rw[Qp]
 repeat' (first|(apply js (n:=1);(iterate 4 exact rfl))|(refine qwg (sz:=4) rfl hnr.val rfl rfl ?_ ?_;exact⟨_,rfl⟩)|(apply js;exact rfl;exact hnr.len;exact rfl;exact rfl)|(refine qa2 (sz:=4) (ys:=[entA e]) (bytes:=56) hnr.val (λ_ _ h=>h) rfl rfl ⟨⟨_,_,rfl,rfl,rfl,rfl,rfl⟩⟩ rfl Sx (by simp[maxLen]) Sx λcap pad q1 q2 q3 q4=>?_)|apply qp|apply qj|apply qi|apply qm|apply qk|(apply qz;(iterate 3 exact rfl))|(apply qh;exact rfl;apply xc;exact cAo)|(apply qh;exact rfl;apply yi;exact cAo)|apply za|apply zg)
 refine qs rfl (zj rfl) ?_
 show OwnR 4 109 _ st c (.os st.length 0 0 _ (cap+1)) (st++[_])
 refine⟨.inr ⟨_,0,cap,pad,rfl,wu,q1,q2,q3,q4⟩,qgj,λj hj _=>Za hj,λo ho=>?_⟩
 simp only[ze,Qt]at ho
 left
 omega
theorem zd4(es:List EntV)(e:EntV)(hl:es.length<1000000)(st:List AObj)(o ver cap:Nat)(pad:List AV)(e2:st[o]?=some (.cells ver 109 (flat (es.map entA)++pad)))(e3:(flat (es.map entA)++pad).length=(cap+1)*4)(e5:es.length<=cap+1)(e6:cap+1<=maxLen):
  ql E 171 [.os o ver 0 es.length (cap+1),Iv es.length,.sl 4 [entA e] none] st λr st'=>OwnR 4 109 (es.map entA++[entA e]) st (.os o ver 0 es.length (cap+1)) r st':=by
 have hml:(es.map entA).length=es.length:=Sx
 have hlt:=lt_of_getElem? e2
 have hV0:Vec 4 109 o (es.map entA) (.os o ver 0 es.length (cap+1)) (.cells ver 109 (flat (es.map entA)++pad)):=by
  have:=Vec.os (o:=o) (T:=109) (xs:=es.map entA) ver (cap+1) pad e3 (qgv _) Om e6
  rw[hml]at this
  exact this
 refine qy Tryz.func171 rfl (Qo rfl) ?_
 rw[Qp]
 repeat' (first|(apply js (n:=1);(iterate 4 exact rfl))|(refine zv (sz:=4) (i:=es.length) (j:=es.length) (m:=cap+1) rfl rfl rfl ?_ ?_ ?_ ?_ ?_ ?_ ?_;exact⟨_,rfl⟩;exact⟨rfl,rfl⟩;exact rfl;omega;omega;omega)|(refine qfm (sz:=4) (bytes:=56) (o:=o) (xs:=es.map entA) (ys:=[entA e]) rfl (λ_ _ h=>h) hV0 e2 rfl rfl ⟨⟨_,_,rfl,rfl,rfl,rfl,rfl⟩⟩ rfl (by simp[maxLen];omega) So λa' ob' hV=>?_)|apply qp|apply qj|apply qi|apply qm|apply qk|(apply qz;(iterate 3 exact rfl))|(apply qh;exact rfl;apply xc;exact cAo)|(apply qh;exact rfl;apply yi;exact cAo)|(apply js;(iterate 4 exact rfl))|apply za|apply zg)
 rcases qmb hV with⟨q,_,_⟩|⟨ver',cap',pad',rfl,rfl,q1,q2,q3,q4⟩
 .simp at q
 .obtain⟨cap',rfl⟩:∃c,cap'=c+1:=⟨cap'-1,by simp at q3;omega⟩
  refine qs rfl (zj rfl) ?_
  show OwnR 4 109 _ st _ (.os o ver' 0 _ (cap'+1)) (st.set o _)
  exact⟨.inr ⟨o,ver',cap',pad',rfl,kp e2,q1,q2,q3,q4⟩,Sx,λj hj hne=>Ql λe=>hne (by rw[e];rfl),λo' ho'=>.inr ho'⟩
theorem qya(w:World)(a b:Addr)(la ca lb cb:Nat)(tA tB:TypeId)(kA kB:Nat)(h1:a.block≠b.block)(h2:w.shape? a.block=some (tA,kA))(h3:w.shape? b.block=some (tB,kB))(h4:kA≠0)(h5:w.frozen? b=false)(h6:w.frozen? {block:=b.block,off:=kB}=false):
  (callFunc 198 #[.slice (some a) la ca,.slice (some b) lb cb]).run E.P w=.ok (.value (.bool false)) w:=by
 have hz:∀w,(Go.sizeOf 109).run E.P w=.ok 4 w:=λw=>(kr (agg:=true) rfl w).1
 rw[run_callFunc_extern (P:=E.P) Tryz.func198 Kr Kr Kr (e:=Extern.SlicesOverlaps.overlaps #[103,103] #[4]) Kr,
  qo6 w 103 4 109 rfl 4 hz a b la ca lb cb h1 tA tB kA kB h2 h3 h4 h5 h6]
 rfl
structure InsB (es:List EntV) (e:EntV) (i cap:Nat) (pad:List AV):Prop where
 t4:(flat ((es.take i).map entA)).length=i*4
 d4:(flat ((es.drop i).map entA)).length=(es.length-i)*4
 split:flat (es.map entA)++pad=flat ((es.take i).map entA)++(flat ((es.drop i).map entA)++pad)
 take:(flat (es.map entA)++pad).take (i*4)=flat ((es.take i).map entA)
 drop:((flat (es.map entA)++pad).drop (0+i*4)).take ((es.length-i)*4)=flat ((es.drop i).map entA)
 new:flat ((es.take i++e::es.drop i).map entA)=flat ((es.take i).map entA)++flat [entA e]++flat ((es.drop i).map entA)
 nl:(es.take i++e::es.drop i).length=es.length+1
 src:∀o ver L c'(S:List AObj),(flat (es.map entA)++pad).length=(cap+1)*4->es.length<=cap+1->S[o]?=some (.cells ver 109 (flat (es.map entA)++pad))->SrcA S 4 (.os o ver (0+i*4) L c') L (es.length-i) (flat ((es.drop i).map entA))
theorem insB(es:List EntV)(e:EntV)(i cap:Nat)(pad:List AV)(hi:i<es.length):InsB es e i cap pad:=by
 have ht4:(flat ((es.take i).map entA)).length=i*4:=by rw[qb3,Zg,Zv Om]
 have hd4:(flat ((es.drop i).map entA)).length=(es.length-i)*4:=by rw[qb3,Zh]
 have hsplit:flat (es.map entA)++pad=flat ((es.take i).map entA)++(flat ((es.drop i).map entA)++pad):=by
  rw[<-Qw,<-qfc,Qg]
 have hdrop:((flat (es.map entA)++pad).drop (0+i*4)).take ((es.length-i)*4)=flat ((es.drop i).map entA):=by rw[Nat.zero_add,hsplit,<-ht4,Xd,<-hd4,Zn]
 refine⟨ht4,hd4,hsplit,by rw[hsplit,<-ht4,Zn],hdrop,?_,So,λo ver L c' S e3 e5 hS=>?_⟩
 .rw[qfc]
  simp[flat]
 .have:=SrcA.os (st:=S) (sz:=4) o ver (0+i*4) L c' (es.length-i) _ _ hS (by rw[e3];omega) (by rw[hdrop];exact qd0 λ_=>rfl)
  rw[hdrop]at this
  exact this
set_option maxHeartbeats 4000000 in
theorem zd6(es:List EntV)(e:EntV)(i:Nat)(hi:i<es.length)(hl:es.length<1000000)(st:List AObj)(o ver cap:Nat)(pad:List AV)(e2:st[o]?=some (.cells ver 109 (flat (es.map entA)++pad)))(e3:(flat (es.map entA)++pad).length=(cap+1)*4)(e5:es.length+1<=cap+1)(e6:cap+1<=maxLen):
  ql E 171 [.os o ver 0 es.length (cap+1),Iv i,.sl 4 [entA e] none] st λr st'=>OwnR 4 109 ((es.take i++e::es.drop i).map entA) st (.os o ver 0 es.length (cap+1)) r st':=by
 have hI:=insB es e i cap pad hi
 have hlt:=lt_of_getElem? e2
 have hfl1:(flat [entA e]).length=4:=rfl
 have ht4:=hI.t4
 have hd4:=hI.d4
 have hi1:(if cap+1=i then 0 else 0+i*4)=0+i*4:=if_neg Om
 have hi2:(if cap+1=i+1 then 0 else 0+(i+1)*4)=(i+1)*4:=by rw[if_neg Om];omega
 obtain⟨B1,hB1⟩:∃B1,(flat ((es.drop i).map entA)++pad).drop 4=B1:=⟨_,rfl⟩
 obtain⟨A1,hA1⟩:∃A1,(flat ((es.drop i).map entA)++pad).take 4=A1:=⟨_,rfl⟩
 have hA1l:A1.length=4:=by
  rw[<-hA1,Zg,Qd,hd4]
  omega
 obtain⟨X1,hX1⟩:∃X1,flat ((es.take i).map entA)++A1++flat ((es.drop i).map entA)++B1.drop ((es.length-i)*4)=X1:=⟨_,rfl⟩
 have hsp1:zt (flat (es.map entA)++pad) ((i+1)*4) (flat ((es.drop i).map entA))=X1:=by
  have e1:flat (es.map entA)++pad=(flat ((es.take i).map entA)++A1)++B1:=by rw[hI.split,Qw,<-hA1,<-hB1,Qg]
  rw[e1,qcw _ _ _ (by rw[Qd,ht4,hA1l];omega),hd4,hX1]
 have hsp2:zt X1 (0+i*4) (flat [entA e])=flat ((es.take i++e::es.drop i).map entA)++B1.drop ((es.length-i)*4):=by
  have e1:X1=flat ((es.take i).map entA)++(A1++(flat ((es.drop i).map entA)++B1.drop ((es.length-i)*4))):=by rw[<-hX1];simp
  rw[e1,qcw _ _ _ (by rw[ht4];omega),hfl1,List.drop_append_of_le_length Om,Qn (by omega:A1.length<=4),hI.new]
  simp
 have hsl1:X1.length=(cap+1)*4:=by
  rw[<-hsp1,qgc (by rw[e3,hd4];omega),e3]
 have hsl2:(flat ((es.take i++e::es.drop i).map entA)++B1.drop ((es.length-i)*4)).length=(cap+1)*4:=by
  rw[<-hsp2,qgc (by rw[hsl1,hfl1];omega),hsl1]
 have hsrc:=hI.src o ver (es.length+1-i) (cap+1-i) st e3 Om e2
 have hnl:=hI.nl
 generalize hXn:flat ((es.take i++e::es.drop i).map entA)++B1.drop ((es.length-i)*4)=Xn at hsp2 hsl2
 clear hX1 hB1 hA1 hI ht4 hd4
 generalize hdz:flat ((es.drop i).map entA)=dz at hsp1 hsrc
 refine qy Tryz.func171 rfl (Qo rfl) ?_
 rw[Qp]
 generalize flat (es.map entA)++pad=X0 at e2 e3 hsp1
 repeat' (first|apply qp|apply qj|apply qi|apply qm|apply qk)
 refine zv (o:=o) (ver:=ver) (off:=0) (len:=es.length) (cap:=cap+1) (sz:=4) (i:=i) (j:=es.length) (m:=cap+1) rfl rfl rfl ?_ ?_ ?_ Om Om Om ?_
 .exact⟨_,rfl⟩
 .exact⟨rfl,rfl⟩
 .exact rfl
 repeat' (first|(apply js (n:=1);(iterate 4 exact rfl))|apply qp|apply qj|apply qi|apply qm|apply qk|(apply qz;(iterate 3 exact rfl))|(apply qh;exact rfl;apply yi;exact cAo)|(apply js;(iterate 4 exact rfl))|(apply ja;exact rfl;exact rfl;exact zp Om Om)|apply za)
 refine qpk rfl rfl rfl ?_
 repeat' (first|apply qp|apply qj|apply qi|apply qm|(apply qz;(iterate 3 exact rfl))|(apply qh;exact rfl;apply yi;exact cAo)|(apply ja;exact rfl;exact rfl;exact zp Om Om)|apply za)
 refine zv (o:=o) (ver:=ver) (off:=0) (len:=es.length) (cap:=cap+1) (sz:=4) (i:=0) (j:=es.length+1) (m:=cap+1) rfl rfl rfl ?_ ?_ ?_ Om Om Om ?_
 .exact rfl
 .exact⟨_,rfl⟩
 .exact rfl
 repeat' (first|apply qp|apply qj|apply qi|apply qm|apply qk|(apply ja;exact rfl;exact rfl;exact zp Om Om))
 refine zv (o:=o) (ver:=ver) (off:=0) (len:=es.length+1) (cap:=cap+1) (sz:=4) (i:=i+1) (j:=es.length+1) (m:=cap+1) rfl rfl rfl ?_ ?_ ?_ Om Om Om ?_
 .exact⟨_,rfl⟩
 .exact⟨rfl,rfl⟩
 .exact rfl
 rw[hi2]
 repeat' (first|(apply q9a;first|apply qp|apply q8|apply qj|(apply qh;exact rfl;apply xc;exact cAo)|(apply qh;exact rfl;apply yi;exact cAo)|(apply qh;exact rfl;apply qp1;exact cRa)|(apply qh;exact rfl;apply q28;exact cRa)|(apply qh;exact rfl;apply cd_n<;>intro h)|(apply qh;exact rfl;apply cd_t;exact cRa)|(apply qh;exact rfl;apply cd_f;exact cRa)|(apply qh;exact rfl;apply cd_d<;>intro h)|(apply qh;exact rfl;apply cd_s<;>intro h)|apply za|apply kh|apply zg)|(apply q3k;first|(apply z6;(iterate 4 exact rfl))|(apply qgr;(iterate 4 exact rfl)))|(apply zci;first|(apply qg3;exact cAo)|(apply qen;exact cAo)|(apply qdp;exact cAo)|(apply qtz;exact cAo)|(apply qty;exact cRa)|(apply qtx;exact cRa)|(apply q3v;exact cRa)|(apply qqn;exact cRa)|(apply qqo<;>intro h)|(apply qeo;exact cRa)|(apply qxh;exact cRa)|(apply qli;exact cRa)|(apply qb4;exact cRa)|(apply qco<;>intro h)|(apply qol<;>intro h))|(apply zch;first|apply qgs|(apply q1d;(iterate 4 exact rfl))|(apply q5k;exact rfl;exact rfl;exact zp Om Om)|(apply q1f;(iterate 4 exact rfl);exact cAs;exact cAs)|(apply qnd;(iterate 5 exact rfl))|(apply qk7;exact rfl;exact rfl;exact cOs)|(apply qfw;(iterate 3 exact rfl))|(apply qnc;(iterate 5 exact rfl))|(apply qpu;(iterate 4 exact rfl))|(apply qpt;(iterate 3 exact rfl))|(apply q5i;(iterate 3 exact rfl);exact cAs)|(apply q1e;exact rfl;exact rfl)|(apply qwk;exact rfl;exact rfl)|(apply qwl;(iterate 3 exact rfl);omega)|(apply qs9;(iterate 3 exact rfl))|apply qei|apply qs8|(apply qwj;exact rfl;exact rfl;exact zp Om Om)|(apply zbw;(iterate 3 exact rfl))|(apply q1g;(iterate 3 exact rfl);exact cAs)|(apply q1c;(iterate 3 exact rfl);exact cAs)|(apply q2y;exact rfl;exact rfl))|(apply q3j;first|(apply qz;(iterate 3 exact rfl))|(apply x8;(iterate 3 exact rfl))|(apply qbj;exact rfl;exact rfl;exact cOs)|(apply ja;exact rfl;exact rfl;exact zp Om Om)|(apply qeh;exact rfl;exact rfl;exact zp Om Om)|(apply qc5;exact rfl;exact rfl)|(apply qc6;exact rfl;exact rfl)|(apply qbf;exact rfl;exact rfl)|(apply qfo;exact rfl;exact rfl)|(apply y4;(iterate 3 exact rfl))|(apply qfp;(iterate 3 exact rfl))|(apply qck;exact rfl;exact rfl;(first|exact ju _|exact rfl);first|exact ju _|exact rfl)|(apply qpj;exact rfl;exact rfl;(first|exact ju _|exact rfl);first|exact ju _|exact rfl)|(apply q5g;exact rfl;exact rfl;(first|exact ju _|exact rfl);first|exact ju _|exact rfl)|(apply qd2;(iterate 3 exact rfl))|(apply qjj;(iterate 3 exact rfl)))|(apply q58;first|(apply kg;(iterate 3 exact rfl))|(apply qu0;(iterate 5 exact rfl))|(apply kw;(iterate 5 exact rfl)))|(apply q59;first|(apply qpp;exact rfl)|(apply w6;exact rfl)|(apply qgq;exact rfl))|(apply q3l;first|(apply qk5;(iterate 3 exact rfl);exact cAs)|(apply qk3;(iterate 3 exact rfl);exact cAs)|(apply qk4;(iterate 4 exact rfl);exact cAs;exact cAs)|(apply qiy;(iterate 4 exact rfl);(first|assumption|omega|exact Nat.succ_le_succ (Nat.zero_le _)|(simp;omega));exact rfl))|(apply q57;first|(apply vb;(iterate 3 exact rfl))|(apply js;(iterate 4 exact rfl)))|(apply qsf;first|(apply jk;(iterate 3 exact rfl))|(apply xh;(iterate 4 exact rfl)))|(apply q3m;first|(apply qr5;(iterate 11 exact rfl))|(apply vf;(iterate 11 exact rfl)))|(apply q9b;first|apply qi|apply qm|apply qk|(apply kf;exact rfl;exact rfl)|(apply q7;exact rfl;apply qf8;exact cAo)|(apply q7;exact rfl;apply qkb;exact cAo)|(apply q7;exact rfl;apply zbn;exact cRa)|(apply q7;exact rfl;apply q4d;exact cRa)|(apply q7;exact rfl;apply pk_t;exact cRa)|(apply q7;exact rfl;apply pk_f;exact cRa)|(apply vp;exact rfl;exact rfl)|apply qfn|(apply wh;exact rfl;exact rfl)|(apply qdc;(iterate 4 exact rfl))|(apply qji;(iterate 3 exact rfl))|(apply yr;(iterate 3 exact rfl);exact cAs)|(apply y8;(iterate 3 exact rfl))|(apply y9;(iterate 9 exact rfl))|(apply wg;exact rfl;exact rfl)|(apply qik;(iterate 4 exact rfl);(first|assumption|omega|decide);exact rfl)|(apply qbq;(iterate 4 exact rfl);first|assumption|omega|decide)))
 refine qu2 (xs:=[entA e]) (o:=o) (ver:=ver) rfl rfl e2 (by simp[flat,AV.cells]) qya ?_
 repeat' (first|apply qp|apply qi|(apply w6;exact rfl)|(apply qh;exact rfl;apply qp1;exact cRa))
 refine qtc [(0,.os o ver 0 (es.length+1) (cap+1)),(1,Iv i),(2,.sl 4 [entA e] none),(7,Iv 1)] st [] ⟨rfl,rfl,rfl,rfl,trivial⟩ rfl rfl λt=>?_
 refine qsb (λs=>StA [(0,.os o ver 0 (es.length+1) (cap+1)),(1,Iv i),(2,.sl 4 [entA e] none)] (st.set o (.cells ver 109 X1)) [] s) ?_ ?_
 .refine qhp rfl rfl ?_
  (apply xi 0;exact rfl;kernel_rfl;kernel_rfl;kernel_rfl;exact rfl;exact yb)
  (apply xi 1;exact rfl;kernel_rfl;kernel_rfl;kernel_rfl;exact rfl;exact yb)
  (apply xi 2;exact rfl;kernel_rfl;kernel_rfl;kernel_rfl;exact rfl;exact yb)
  (apply xi 5;exact rfl;kernel_rfl;kernel_rfl;kernel_rfl;exact rfl;exact yb)
  (apply xi 6;exact rfl;kernel_rfl;kernel_rfl;kernel_rfl;exact rfl;exact yb)
  refine v7 [3,7] Kr rfl ⟨⟨_,rfl,?_⟩,⟨_,rfl,?_⟩,trivial⟩
  ·(apply ja;exact rfl;exact rfl;exact zp Om Om)
   apply qi
   refine v7 [4,7] Kr rfl ⟨⟨_,rfl,?_⟩,⟨_,rfl,?_⟩,trivial⟩
   ·(refine zv (o:=o) (ver:=ver) (off:=0) (len:=es.length+1) (cap:=cap+1) (sz:=4) (i:=i+1) (j:=es.length+1) (m:=cap+1) rfl rfl rfl ?_ ?_ ?_ Om Om Om ?_;exact⟨_,rfl⟩;exact⟨rfl,rfl⟩;exact rfl;rw[hi2])
    apply qi
    refine v7 [7] Kr rfl ⟨⟨_,rfl,?_⟩,trivial⟩
    (refine zv (o:=o) (ver:=ver) (off:=0) (len:=es.length+1) (cap:=cap+1) (sz:=4) (i:=i) (j:=es.length+1) (m:=cap+1) rfl rfl rfl ?_ ?_ ?_ Om Om Om ?_;exact⟨_,rfl⟩;exact⟨rfl,rfl⟩;exact rfl;rw[hi1])
    apply qi
    refine v7 [8] Kr rfl ⟨⟨_,rfl,?_⟩,trivial⟩
    (refine yl (o:=o) (ver:=ver) (off:=(i+1)*4) (sz:=4) (bytes:=56) (m:=es.length-i) rfl rfl e2 hsrc ?_ rfl ⟨⟨_,_,rfl,rfl,rfl,rfl,rfl⟩⟩ ?_ ?_;(show min _ _=_;omega);(rw[e3];omega);rw[hsp1])
    apply qi
    refine qbk Kr ?_
    exact jx ⟨rfl,rfl,rfl,trivial⟩
   ·(refine zv (o:=o) (ver:=ver) (off:=0) (len:=es.length+1) (cap:=cap+1) (sz:=4) (i:=i) (j:=es.length+1) (m:=cap+1) rfl rfl rfl ?_ ?_ ?_ Om Om Om ?_;exact⟨_,rfl⟩;exact⟨rfl,rfl⟩;exact rfl;rw[hi1])
    apply qi
    refine v7 [4] Kr rfl ⟨⟨_,rfl,?_⟩,trivial⟩
    (refine zv (o:=o) (ver:=ver) (off:=0) (len:=es.length+1) (cap:=cap+1) (sz:=4) (i:=i+1) (j:=es.length+1) (m:=cap+1) rfl rfl rfl ?_ ?_ ?_ Om Om Om ?_;exact⟨_,rfl⟩;exact⟨rfl,rfl⟩;exact rfl;rw[hi2])
    apply qi
    refine v7 [8] Kr rfl ⟨⟨_,rfl,?_⟩,trivial⟩
    (refine yl (o:=o) (ver:=ver) (off:=(i+1)*4) (sz:=4) (bytes:=56) (m:=es.length-i) rfl rfl e2 hsrc ?_ rfl ⟨⟨_,_,rfl,rfl,rfl,rfl,rfl⟩⟩ ?_ ?_;(show min _ _=_;omega);(rw[e3];omega);rw[hsp1])
    apply qi
    refine qbk Kr ?_
    exact jx ⟨rfl,rfl,rfl,trivial⟩
  ·(refine zv (o:=o) (ver:=ver) (off:=0) (len:=es.length+1) (cap:=cap+1) (sz:=4) (i:=i) (j:=es.length+1) (m:=cap+1) rfl rfl rfl ?_ ?_ ?_ Om Om Om ?_;exact⟨_,rfl⟩;exact⟨rfl,rfl⟩;exact rfl;rw[hi1])
   apply qi
   refine v7 [3] Kr rfl ⟨⟨_,rfl,?_⟩,trivial⟩
   (apply ja;exact rfl;exact rfl;exact zp Om Om)
   apply qi
   refine v7 [4] Kr rfl ⟨⟨_,rfl,?_⟩,trivial⟩
   (refine zv (o:=o) (ver:=ver) (off:=0) (len:=es.length+1) (cap:=cap+1) (sz:=4) (i:=i+1) (j:=es.length+1) (m:=cap+1) rfl rfl rfl ?_ ?_ ?_ Om Om Om ?_;exact⟨_,rfl⟩;exact⟨rfl,rfl⟩;exact rfl;rw[hi2])
   apply qi
   refine v7 [8] Kr rfl ⟨⟨_,rfl,?_⟩,trivial⟩
   (refine yl (o:=o) (ver:=ver) (off:=(i+1)*4) (sz:=4) (bytes:=56) (m:=es.length-i) rfl rfl e2 hsrc ?_ rfl ⟨⟨_,_,rfl,rfl,rfl,rfl,rfl⟩⟩ ?_ ?_;(show min _ _=_;omega);(rw[e3];omega);rw[hsp1])
   apply qi
   refine qbk Kr ?_
   exact jx ⟨rfl,rfl,rfl,trivial⟩
 .rintro _ ⟨t,rfl⟩
  have hob:(st.set o (AObj.cells ver 109 X1))[o]?=some (.cells ver 109 X1):=kp e2
  repeat' (first|apply qp|apply qj|apply qm)
  refine zv (o:=o) (ver:=ver) (off:=0) (len:=es.length+1) (cap:=cap+1) (sz:=4) (i:=i) (j:=es.length+1) (m:=cap+1) rfl rfl rfl ?_ ?_ ?_ Om Om Om ?_
  .exact⟨_,rfl⟩
  .exact⟨rfl,rfl⟩
  .exact rfl
  rw[hi1]
  repeat' (first|apply qm)
  refine yl (o:=o) (ver:=ver) (off:=0+i*4) (sz:=4) (bytes:=56) (L:=1) (m:=1) rfl rfl hob (.sl [entA e] none rfl) ?_ rfl ⟨⟨_,_,rfl,rfl,rfl,rfl,rfl⟩⟩ ?_ ?_
  .show min _ _=_
   omega
  .rw[hsl1]
   omega
  rw[hsp2]
  repeat' (first|apply qp|apply qj|apply qi|apply qm|apply qk|apply zg)
  refine qs rfl (zj rfl) ?_
  show OwnR 4 109 _ st _ (.os o ver 0 (es.length+1) (cap+1)) ((st.set o _).set o (.cells ver 109 Xn))
  rw[Xe,<-hXn]
  rw[<-hXn]at hsl2
  exact⟨.inr ⟨o,ver,cap,_,by rw[Qj,hnl],kp e2,hsl2,qgv _,by rw[Qj,hnl];omega,e6⟩,Sx,λj hj hne=>Ql λe=>hne (by rw[e];rfl),λo' ho'=>.inr ho'⟩
set_option maxHeartbeats 4000000 in
theorem zd5(es:List EntV)(e:EntV)(i:Nat)(hi:i<es.length)(hl:es.length<1000000)(st:List AObj)(o ver cap:Nat)(pad:List AV)(e2:st[o]?=some (.cells ver 109 (flat (es.map entA)++pad)))(e3:(flat (es.map entA)++pad).length=(cap+1)*4)(e5:es.length=cap+1)(e6:cap+1<=maxLen):
  ql E 171 [.os o ver 0 es.length (cap+1),Iv i,.sl 4 [entA e] none] st λr st'=>OwnR 4 109 ((es.take i++e::es.drop i).map entA) st (.os o ver 0 es.length (cap+1)) r st':=by
 have hI:=insB es e i cap pad hi
 have hlt:=lt_of_getElem? e2
 have hfl1:(flat [entA e]).length=4:=rfl
 have ht4:=hI.t4
 have hd4:=hI.d4
 have htake:=hI.take
 have hi1:(if cap+1=i then 0 else 0+i*4)=0+i*4:=if_neg Om
 have hsrc:=λS=>hI.src o ver (es.length-i) (cap+1-i) S e3 Om
 have hnl:=hI.nl
 have hnew:=hI.new
 have hk9:Iv ((es.length:Int)+1-i)=Iv ((es.length+1-i:Nat):Int):=congrArg (λz:Int=>Iv z) Om
 have hkk:i+(es.length+1-i)=es.length+1:=Om
 generalize flat ((es.drop i).map entA)=dz at hsrc hd4 hnew
 refine qy Tryz.func171 rfl (Qo rfl) ?_
 rw[Qp]
 generalize flat (es.map entA)++pad=X0 at e2 e3 htake hsrc
 repeat' (first|apply qp|apply qj|apply qi|apply qm|apply qk)
 refine zv (o:=o) (ver:=ver) (off:=0) (len:=es.length) (cap:=cap+1) (sz:=4) (i:=i) (j:=es.length) (m:=cap+1) rfl rfl rfl ?_ ?_ ?_ Om Om Om ?_
 .exact⟨_,rfl⟩
 .exact⟨rfl,rfl⟩
 .exact rfl
 repeat' (first|(apply js (n:=1);(iterate 4 exact rfl))|apply qp|apply qj|apply qi|apply qm|apply qk|(apply qz;(iterate 3 exact rfl))|(apply qh;exact rfl;apply yi;exact cAo)|(apply js;(iterate 4 exact rfl))|(apply ja;exact rfl;exact rfl;exact zp Om Om)|apply za)
 refine qpk rfl rfl rfl ?_
 refine qpq [(0,.os o ver 0 es.length (cap+1)),(1,Iv i),(2,.sl 4 [entA e] none),(7,Iv 1),(8,Iv es.length),(28,Iv ((es.length:Int)+1)),(30,Iv ((cap+1:Nat):Int))] st [] ⟨rfl,rfl,rfl,rfl,rfl,rfl,rfl,trivial⟩ rfl rfl λt=>?_
 repeat' (first|apply qp|apply qj|apply qi|apply qm|(apply qz;(iterate 3 exact rfl))|(apply qh;exact rfl;apply xc;exact cAo))
 refine zv (o:=o) (ver:=ver) (off:=0) (len:=es.length) (cap:=cap+1) (sz:=4) (i:=0) (j:=i) (m:=cap+1) rfl rfl rfl ?_ ?_ ?_ Om Om Om ?_
 .exact rfl
 .exact⟨_,rfl⟩
 .exact rfl
 repeat' (first|apply qm|(apply ja;exact rfl;exact rfl;exact zp Om Om)|(apply qeh;exact rfl;exact rfl;exact zp Om Om))
 refine qn7 (sz:=4) (bytes:=56) (o:=o) (ver:=ver) (n:=i) (cap:=cap+1) (k:=es.length+1-i) (cs:=X0) rfl hk9 e2 rfl rfl ⟨⟨_,_,rfl,rfl,rfl,rfl,rfl⟩⟩ Om Om Om (by rw[e3];omega) (by simp only[maxLen];omega) Om λcap' zs z1 z2 z3=>?_
 rw[hkk,htake]
 refine qpq [(0,.os o ver 0 es.length (cap+1)),(1,Iv i),(2,.sl 4 [entA e] none),(7,Iv 1),(40,.os st.length 0 0 (es.length+1) cap')] (st++[.cells 0 109 (flat ((es.take i).map entA)++zs)]) [] ⟨rfl,rfl,rfl,rfl,rfl,trivial⟩ rfl rfl λt=>?_
 obtain⟨cap',rfl⟩:∃c,cap'=c+1:=⟨cap'-1,Om⟩
 have hi3:(if cap'+1=i then 0 else 0+i*4)=0+i*4:=if_neg Om
 have hi4:(if cap'+1=i+1 then 0 else 0+(i+1)*4)=(i+1)*4:=by rw[if_neg Om];omega
 have hsp1:zt (flat ((es.take i).map entA)++zs) (0+i*4) (flat [entA e])=(flat ((es.take i).map entA)++flat [entA e])++zs.drop 4:=qcw _ _ _ (by rw[ht4];omega)
 have hsp2:zt ((flat ((es.take i).map entA)++flat [entA e])++zs.drop 4) ((i+1)*4) dz=flat ((es.take i++e::es.drop i).map entA)++(zs.drop 4).drop dz.length:=by
  rw[qcw _ _ _ (by rw[Qd,ht4,hfl1];omega),hnew]
 have hl1:((flat ((es.take i).map entA)++flat [entA e])++zs.drop 4).length=(cap'+1)*4:=by
  simp only[Qd,Zh,ht4,hfl1,z1]
  omega
 have hl2:(flat ((es.take i++e::es.drop i).map entA)++(zs.drop 4).drop dz.length).length=(cap'+1)*4:=by
  rw[<-hsp2,qgc (by rw[hl1,hd4];omega),hl1]
 have hl0:(flat ((es.take i).map entA)++zs).length=(cap'+1)*4:=by
  rw[Qd,ht4,z1]
  omega
 repeat' (first|apply qp|apply qj|apply qi|apply qm|apply qk)
 refine zv (o:=st.length) (ver:=0) (off:=0) (len:=es.length+1) (cap:=cap'+1) (sz:=4) (i:=i) (j:=es.length+1) (m:=cap'+1) rfl rfl rfl ?_ ?_ ?_ Om Om Om ?_
 .exact⟨_,rfl⟩
 .exact⟨rfl,rfl⟩
 .exact rfl
 rw[hi3]
 repeat' (first|apply qm)
 refine yl (o:=st.length) (ver:=0) (off:=0+i*4) (sz:=4) (bytes:=56) (L:=1) (m:=1) rfl rfl wu (.sl [entA e] none rfl) ?_ rfl ⟨⟨_,_,rfl,rfl,rfl,rfl,rfl⟩⟩ ?_ ?_
 .show min _ _=_
  omega
 .rw[hl0]
  omega
 rw[hsp1]
 generalize hX1:(flat ((es.take i).map entA)++flat [entA e])++zs.drop 4=X1 at hsp2 hl1
 have hbo:(st++[AObj.cells 0 109 (flat ((es.take i).map entA)++zs)])[st.length]?=some (.cells 0 109 (flat ((es.take i).map entA)++zs)):=wu
 have hS1n:((st++[AObj.cells 0 109 (flat ((es.take i).map entA)++zs)]).set st.length (.cells 0 109 X1))[st.length]?=some (.cells 0 109 X1):=kp hbo
 have hS1o:((st++[AObj.cells 0 109 (flat ((es.take i).map entA)++zs)]).set st.length (.cells 0 109 X1))[o]?=some (.cells ver 109 X0):=by
  rw[Ql Om,Za hlt]
  exact e2
 have hS1j:∀j,j<st.length->((st++[AObj.cells 0 109 (flat ((es.take i).map entA)++zs)]).set st.length (.cells 0 109 X1))[j]?=st[j]?:=λj hj=>by
  rw[Ql Om,Za hj]
 have hS1l:((st++[AObj.cells 0 109 (flat ((es.take i).map entA)++zs)]).set st.length (.cells 0 109 X1)).length=st.length+1:=Sx
 repeat' (first|apply qp|apply qi)
 refine qtc [(0,.os o ver 0 es.length (cap+1)),(1,Iv i),(7,Iv 1),(9,.os st.length 0 0 (es.length+1) (cap'+1))] ((st++[AObj.cells 0 109 (flat ((es.take i).map entA)++zs)]).set st.length (.cells 0 109 X1)) [] ⟨rfl,rfl,rfl,rfl,trivial⟩ rfl rfl λt=>?_
 generalize(st++[AObj.cells 0 109 (flat ((es.take i).map entA)++zs)]).set st.length (.cells 0 109 X1)=S1 at hS1n hS1o hS1j hS1l
 refine qsb (λs=>StA [(9,.os st.length 0 0 (es.length+1) (cap'+1))] (S1.set st.length (.cells 0 109 (flat ((es.take i++e::es.drop i).map entA)++(zs.drop 4).drop dz.length))) [] s) ?_ ?_
 .refine qhp rfl rfl ?_
  (apply xi 0;exact rfl;kernel_rfl;kernel_rfl;kernel_rfl;exact rfl;exact yb)
  (apply xi 1;exact rfl;kernel_rfl;kernel_rfl;kernel_rfl;exact rfl;exact yb)
  (apply xi 2;exact rfl;kernel_rfl;kernel_rfl;kernel_rfl;exact rfl;exact yb)
  (apply xi 5;exact rfl;kernel_rfl;kernel_rfl;kernel_rfl;exact rfl;exact yb)
  (apply xi 6;exact rfl;kernel_rfl;kernel_rfl;kernel_rfl;exact rfl;exact yb)
  refine v7 [3,7] Kr rfl ⟨⟨_,rfl,?_⟩,⟨_,rfl,?_⟩,trivial⟩
  ·(apply ja;exact rfl;exact rfl;exact zp Om Om)
   apply qi
   refine v7 [4,7] Kr rfl ⟨⟨_,rfl,?_⟩,⟨_,rfl,?_⟩,trivial⟩
   ·(refine zv (o:=st.length) (ver:=0) (off:=0) (len:=es.length+1) (cap:=cap'+1) (sz:=4) (i:=i+1) (j:=es.length+1) (m:=cap'+1) rfl rfl rfl ?_ ?_ ?_ Om Om Om ?_;exact⟨_,rfl⟩;exact⟨rfl,rfl⟩;exact rfl;rw[hi4])
    apply qi
    refine v7 [7] Kr rfl ⟨⟨_,rfl,?_⟩,trivial⟩
    (refine zv (o:=o) (ver:=ver) (off:=0) (len:=es.length) (cap:=cap+1) (sz:=4) (i:=i) (j:=es.length) (m:=cap+1) rfl rfl rfl ?_ ?_ ?_ Om Om Om ?_;exact⟨_,rfl⟩;exact⟨rfl,rfl⟩;exact rfl;rw[hi1])
    apply qi
    refine v7 [8] Kr rfl ⟨⟨_,rfl,?_⟩,trivial⟩
    (refine yl (o:=st.length) (ver:=0) (off:=(i+1)*4) (sz:=4) (bytes:=56) (m:=es.length-i) rfl rfl hS1n (hsrc S1 hS1o) ?_ rfl ⟨⟨_,_,rfl,rfl,rfl,rfl,rfl⟩⟩ ?_ ?_;(show min _ _=_;omega);(rw[hl1];omega);rw[hsp2])
    apply qi
    refine qbk Kr ?_
    exact jx ⟨rfl,trivial⟩
   ·(refine zv (o:=o) (ver:=ver) (off:=0) (len:=es.length) (cap:=cap+1) (sz:=4) (i:=i) (j:=es.length) (m:=cap+1) rfl rfl rfl ?_ ?_ ?_ Om Om Om ?_;exact⟨_,rfl⟩;exact⟨rfl,rfl⟩;exact rfl;rw[hi1])
    apply qi
    refine v7 [4] Kr rfl ⟨⟨_,rfl,?_⟩,trivial⟩
    (refine zv (o:=st.length) (ver:=0) (off:=0) (len:=es.length+1) (cap:=cap'+1) (sz:=4) (i:=i+1) (j:=es.length+1) (m:=cap'+1) rfl rfl rfl ?_ ?_ ?_ Om Om Om ?_;exact⟨_,rfl⟩;exact⟨rfl,rfl⟩;exact rfl;rw[hi4])
    apply qi
    refine v7 [8] Kr rfl ⟨⟨_,rfl,?_⟩,trivial⟩
    (refine yl (o:=st.length) (ver:=0) (off:=(i+1)*4) (sz:=4) (bytes:=56) (m:=es.length-i) rfl rfl hS1n (hsrc S1 hS1o) ?_ rfl ⟨⟨_,_,rfl,rfl,rfl,rfl,rfl⟩⟩ ?_ ?_;(show min _ _=_;omega);(rw[hl1];omega);rw[hsp2])
    apply qi
    refine qbk Kr ?_
    exact jx ⟨rfl,trivial⟩
  ·(refine zv (o:=o) (ver:=ver) (off:=0) (len:=es.length) (cap:=cap+1) (sz:=4) (i:=i) (j:=es.length) (m:=cap+1) rfl rfl rfl ?_ ?_ ?_ Om Om Om ?_;exact⟨_,rfl⟩;exact⟨rfl,rfl⟩;exact rfl;rw[hi1])
   apply qi
   refine v7 [3] Kr rfl ⟨⟨_,rfl,?_⟩,trivial⟩
   (apply ja;exact rfl;exact rfl;exact zp Om Om)
   apply qi
   refine v7 [4] Kr rfl ⟨⟨_,rfl,?_⟩,trivial⟩
   (refine zv (o:=st.length) (ver:=0) (off:=0) (len:=es.length+1) (cap:=cap'+1) (sz:=4) (i:=i+1) (j:=es.length+1) (m:=cap'+1) rfl rfl rfl ?_ ?_ ?_ Om Om Om ?_;exact⟨_,rfl⟩;exact⟨rfl,rfl⟩;exact rfl;rw[hi4])
   apply qi
   refine v7 [8] Kr rfl ⟨⟨_,rfl,?_⟩,trivial⟩
   (refine yl (o:=st.length) (ver:=0) (off:=(i+1)*4) (sz:=4) (bytes:=56) (m:=es.length-i) rfl rfl hS1n (hsrc S1 hS1o) ?_ rfl ⟨⟨_,_,rfl,rfl,rfl,rfl,rfl⟩⟩ ?_ ?_;(show min _ _=_;omega);(rw[hl1];omega);rw[hsp2])
   apply qi
   refine qbk Kr ?_
   exact jx ⟨rfl,trivial⟩
 .rintro _ ⟨t,rfl⟩
  repeat' (first|apply qp|apply qj|apply qi|apply qm|apply qk|apply zg)
  refine qs rfl (zj rfl) ?_
  show OwnR 4 109 _ st _ (.os st.length 0 0 (es.length+1) (cap'+1)) (S1.set st.length (.cells 0 109 (flat ((es.take i++e::es.drop i).map entA)++(zs.drop 4).drop dz.length)))
  refine⟨.inr ⟨st.length,0,cap',_,by rw[Qj,hnl],kp hS1n,hl2,qgv _,by rw[Qj,hnl];omega,z3⟩,by rw[List.length_set,hS1l];omega,λj hj _=>?_,λo' ho'=>?_⟩
  .rw[Ql Om]
   exact hS1j j hj
  .simp only[ze,Qt]at ho'
   left
   omega
theorem q7z(es:List EntV)(e:EntV)(i:Nat)(hi:i<=es.length)(hl:es.length<1000000)(st:List AObj)(c:AV)(hc:OwnS st 4 109 (es.map entA) c):ql E 171 [c,Iv i,.sl 4 [entA e] none] st λr st'=>OwnR 4 109 ((es.take i++e::es.drop i).map entA) st c r st':=by
 have hml:(es.map entA).length=es.length:=Sx
 have hap:i=es.length->(es.take i++e::es.drop i).map entA=es.map entA++[entA e]:=λh=>by subst h;simp
 rcases hc with⟨h0,hnr⟩|⟨o,ver,cap,pad,rfl,e2,e3,e4,e5,e6⟩
 .have hes:es=[]:=by simpa using h0
  subst hes
  obtain rfl:i=0:=by simpa using hi
  rw[hap rfl]
  exact zd3 e st c hnr
 .rw[hml]at e5⊢
  by_cases hin:i=es.length
  .rw[hap hin]
   subst hin
   exact zd4 es e hl st o ver cap pad e2 e3 e5 e6
  .by_cases hroom:es.length+1<=cap+1
   .exact zd6 es e i Om hl st o ver cap pad e2 e3 hroom e6
   .exact zd5 es e i Om hl st o ver cap pad e2 e3 Om e6
end Go.Proofs.YtapblfabkbdgcaaGreatDoor
namespace Go.Pl
open Go Go.Proofs
def qe4(l:qo)(i:Nat)(x:qx):qo:=match l.ents[i]?with
 |some e=>⟨l.ents.set i ⟨x,e.id⟩,l.next,l.many⟩
 |none=>l
def vw(l:qo)(id:Int)(fs:List Fld):ErrV×qo:=if atF l id<0 then(.num 7,l)else if zo fs=.no then(.no,qe4 l (atF l id).toNat (wd fs))else(zo fs,l)
def delL(l:qo)(i:Nat):qo:=⟨l.ents.take i++l.ents.drop (i+1),l.next,l.many-1⟩
def delF(l:qo)(id:Int):ErrV×qo:=if atF l id<0 then(.num 7,l)else(.no,delL l (atF l id).toNat)
def insL(l:qo)(k:Nat)(x:qx):qo:=⟨l.ents.take k++⟨x,l.next⟩::l.ents.drop k,l.next+1,l.many+1⟩
def insF(l:qo)(id:Int)(fs:List Fld):Int×ErrV×qo:=
 if atF l id<0∧id≠0 then(0,.num 7,l)else if zo fs=.no then(if 400<=l.many then(0,.num 11,l)else(l.next,.no,insL l (atF l id+1).toNat (wd fs)))else(0,zo fs,l)
structure LB (n:Nat) (l:qo):Prop where
 small:n<900000
 len:l.ents.length<=n
 nx0:1<=l.next
 nx1:l.next<=n+1
 mn0: -(n:Int)<=l.many
 mn1:l.many<=n
theorem zao{n:Nat}{l:qo}(h:LB n l)(hs:n+1<900000)(id:Int)(fs:List Fld):LB (n+1) (vw l id fs).2:=by
 have h1:=h.len;have h2:=h.nx0;have h3:=h.nx1;have h4:=h.mn0;have h5:=h.mn1
 unfold vw
 split
 .exact⟨hs,by simp only;omega,h2,by simp only;omega,by simp only;omega,by simp only;omega⟩
 .split
  .unfold qe4
   split
   .exact⟨hs,So,h2,by simp only;omega,by simp only;omega,by simp only;omega⟩
   .exact⟨hs,by simp only;omega,h2,by simp only;omega,by simp only;omega,by simp only;omega⟩
  .exact⟨hs,by simp only;omega,h2,by simp only;omega,by simp only;omega,by simp only;omega⟩
theorem zcd{n:Nat}{l:qo}(h:LB n l)(hs:n+1<900000)(id:Int):LB (n+1) (delF l id).2:=by
 have h1:=h.len;have h2:=h.nx0;have h3:=h.nx1;have h4:=h.mn0;have h5:=h.mn1
 unfold delF
 split
 .exact⟨hs,by simp only;omega,h2,by simp only;omega,by simp only;omega,by simp only;omega⟩
 .exact⟨hs,by simp[delL];omega,h2,by simp only[delL];omega,by simp only[delL];omega,by simp only[delL];omega⟩
theorem zcy{n:Nat}{l:qo}(h:LB n l)(hs:n+1<900000)(id:Int)(fs:List Fld):LB (n+1) (insF l id fs).2.2:=by
 have h1:=h.len;have h2:=h.nx0;have h3:=h.nx1;have h4:=h.mn0;have h5:=h.mn1
 have same:LB (n+1) l:=⟨hs,Om,h2,Om,Om,Om⟩
 unfold insF
 split
 .exact same
 .split
  .split
   .exact same
   .exact⟨hs,by simp[insL];omega,by simp only[insL];omega,by simp only[insL];omega,by simp only[insL];omega,by simp only[insL];omega⟩
  .exact same
end Go.Pl
namespace Go.Proofs.YtapblfabkbdgcaaGreatDoor
open Go Go.Av Go.RowKit Go.Proofs Go.Pl
def oneF(l:qo)(x:qq):Int×ErrV×qo:=if x.kind=1 then(0,vw l x.id x.fields)else if x.kind=2 then(0,delF l x.id)else insF l x.id x.fields
theorem qmt{n:Nat}{l:qo}(h:LB n l)(hs:n+1<900000)(x:qq):LB (n+1) (oneF l x).2.2:=by
 unfold oneF
 split
 .exact zao h hs _ _
 .split
  .exact zcd h hs _
  .exact zcy h hs _ _
theorem zc7(l:qo)(hl:l.ents.length<1000000):j9 E 86 [.a (vc l)] 0 (hpF []) ⟨.bx 0 0,jt [],lstH 1 l++ku [],2⟩:=by
 refine v8 [.a (vc l)] [] 0 (.bx 0 0) (lstH 1 l) 2 Tryz.func86 rfl rfl rfl rfl λS F ρ=>?_
 apply qe [19]
 repeat' (first|apply Qa|(intro h;try exact cDd)|exact⟨Tryz.call127⟩|(refine Qb _ ⟨qzx [.sl 4 (l.ents.map entA) none] _ (λ_=>rfl) (λst=>q3b l.ents st hl),?_⟩)|exact cSd|apply qc [19]|refine exr ?_|refine qf ?_)
theorem zdg(n:Nat)(l:qo)(id:Int)(fs:List Fld)(hB:LB n l)(hK:KeyB fs)(hl:fs.length<1000000):j9 E 128 [.bx 0 0,.i id,.a (q6 fs)] 2 (hpF (lstH 1 l)) ⟨.a (errA (vw l id fs).1),jt (lstH 1 l),lstH 2 (vw l id fs).2++ku (lstH 1 l),3⟩:=by
 refine v8 [.bx 0 0,.i id,.a (q6 fs)] (lstH 1 l) 2 (.a (errA (vw l id fs).1)) (lstH 2 (vw l id fs).2) 3 Tryz.func128 rfl rfl rfl rfl λS F ρ=>?_
 have hle:=hB.len
 have hsm:=hB.small
 have h1:=qr9 l id Om
 have h2:=λst=>q16 fs st hK hl
 unfold vw
 rcases qd4 l id with h|⟨i,e,h,he,hid,hid1⟩
 .rw[h]at h1⊢
  rw[if_pos (by decide)]
  apply qe []
  repeat' (first|apply Qa|(intro h;try exact cDd)|exact⟨Tryz.call168⟩|(refine jf h1 ?_)|exact cSd|apply qc []|refine exr ?_|refine qf ?_)
 .rw[h]at h1⊢
  rw[if_neg Om]
  have hm:(l.ents.map entA)[i]?=some (entA e):=by rw[Qe,he];rfl
  have hil:=lt_of_getElem? hm
  unfold wd at h2⊢
  cases hc:zo fs with
  |no=>
   rw[hc,if_pos rfl]at h2
   rw[if_pos rfl,if_pos rfl]
   unfold qe4
   rw[Qm,he]
   apply qe []
   repeat' (first|apply Qa|(intro h;try exact cDd)|exact⟨Tryz.call168⟩|(refine jf h1 ?_)|exact⟨Tryz.call169⟩|refine cpe h2 ?_|(refine qdg (i:=i) rfl rfl rfl rfl rfl rfl Om ?_)|(refine qib (i:=i) (j:=0) (z:=entA e) (z':=entA ⟨⟨3,zu fs,fs⟩,e.id⟩) (u:=jh ⟨3,zu fs,fs⟩) rfl rfl (λ_=>rfl) rfl rfl rfl hm rfl rfl ?_)|exact cSd|apply qc []|refine exr ?_|refine qf ?_)
   all_goals (simp[List.map_set];done)
  |num m=>
   rw[hc,if_neg Sx]at h2
   rw[if_neg Sx]
   apply qe []
   repeat' (first|apply Qa|(intro h;try exact cDd)|exact⟨Tryz.call168⟩|(refine jf h1 ?_)|exact⟨Tryz.call169⟩|refine cpe h2 ?_|exact cSd|apply qc []|refine exr ?_|refine qf ?_)
  |at' a m=>
   rw[hc,if_neg Sx]at h2
   rw[if_neg Sx]
   apply qe []
   repeat' (first|apply Qa|(intro h;try exact cDd)|exact⟨Tryz.call168⟩|(refine jf h1 ?_)|exact⟨Tryz.call169⟩|refine cpe h2 ?_|exact cSd|apply qc []|refine exr ?_|refine qf ?_)
theorem zfj(n:Nat)(l:qo)(id:Int)(hB:LB n l):j9 E 129 [.bx 0 0,.i id] 2 (hpF (lstH 1 l)) ⟨.a (errA (delF l id).1),jt (lstH 1 l),lstH 2 (delF l id).2++ku (lstH 1 l),3⟩:=by
 refine v8 [.bx 0 0,.i id] (lstH 1 l) 2 (.a (errA (delF l id).1)) (lstH 2 (delF l id).2) 3 Tryz.func129 rfl rfl rfl rfl λS F ρ=>?_
 have hle:=hB.len
 have hsm:=hB.small
 have h4:=hB.mn0
 have h5:=hB.mn1
 have h1:=qr9 l id Om
 unfold delF
 rcases qd4 l id with h|⟨i,e,h,he,hid,hid1⟩
 .rw[h]at h1⊢
  rw[if_pos (by decide)]
  apply qe []
  repeat' (first|apply Qa|(intro h;try exact cDd)|exact⟨Tryz.call168⟩|(refine jf h1 ?_)|exact cSd|apply qc []|refine exr ?_|refine qf ?_)
 .rw[h]at h1⊢
  rw[if_neg Om]
  have hil:=lt_of_getElem? he
  have h2:=qod (f:=170) (E:=E) (xs:=l.ents.map entA) [Iv i,Iv ((i:Int)+1)] rfl (λst c hc=>zf5 l.ents i hil Om st c hc)
  unfold delL
  rw[Qm]
  apply qe []
  repeat' (first|apply Qa|(intro h;try exact cDd)|exact⟨Tryz.call168⟩|(refine jf h1 ?_)|exact⟨Tryz.call170⟩|(refine jf h2 ?_)|exact cSd|apply qc []|refine exr ?_|refine qf ?_)
theorem zfl(n:Nat)(l:qo)(id:Int)(fs:List Fld)(hB:LB n l)(hK:KeyB fs)(hl:fs.length<1000000):j9 E 130 [.bx 0 0,.i id,.a (q6 fs)] 2 (hpF (lstH 1 l)) ⟨.tu [.i (insF l id fs).1,.a (errA (insF l id fs).2.1)],jt (lstH 1 l),lstH 2 (insF l id fs).2.2++ku (lstH 1 l),3⟩:=by
 refine v8 [.bx 0 0,.i id,.a (q6 fs)] (lstH 1 l) 2 (.tu [.i (insF l id fs).1,.a (errA (insF l id fs).2.1)]) (lstH 2 (insF l id fs).2.2) 3 Tryz.func130 rfl rfl rfl rfl λS F ρ=>?_
 have hle:=hB.len
 have hsm:=hB.small
 have h4:=hB.mn0
 have h5:=hB.mn1
 have h6:=hB.nx0
 have h7:=hB.nx1
 have h1:=qr9 l id Om
 have h2:=λst=>q16 fs st hK hl
 unfold insF
 rcases qd4 l id with h|⟨i,e,h,he,hid,hid1⟩
 .rw[h]at h1⊢
  by_cases h0:id=0
  .rw[if_neg (λq=>q.2 h0)]
   rw[show((-1:Int)+1).toNat=0 from rfl]
   unfold wd at h2⊢
   cases hc:zo fs with
   |no=>
    rw[hc,if_pos rfl]at h2
    rw[if_pos rfl,if_pos rfl]
    by_cases hm:400<=l.many
    .rw[if_pos hm]
     apply qe []
     repeat' (first|apply Qa|(intro h;try exact cDd)|exact⟨Tryz.call168⟩|(refine jf h1 ?_)|exact⟨Tryz.call169⟩|refine cpe h2 ?_|exact cSd|apply qc []|refine exr ?_|refine qf ?_)
    .rw[if_neg hm]
     have h3:=qod (f:=171) (E:=E) (xs:=l.ents.map entA) [Iv ((0:Nat):Int),.sl 4 [entA ⟨⟨3,zu fs,fs⟩,l.next⟩] none] rfl (λst c hc=>q7z l.ents ⟨⟨3,zu fs,fs⟩,l.next⟩ (0) Om Om st c hc)
     unfold insL
     apply qe []
     repeat' (first|apply Qa|(intro h;try exact cDd)|exact⟨Tryz.call168⟩|(refine jf h1 ?_)|exact⟨Tryz.call169⟩|refine cpe h2 ?_|exact⟨Tryz.call171⟩|(refine jf h3 ?_)|exact cSd|apply qc []|refine exr ?_|refine qf ?_)
   |num m=>
    rw[hc,if_neg Sx]at h2
    rw[if_neg Sx]
    apply qe []
    repeat' (first|apply Qa|(intro h;try exact cDd)|exact⟨Tryz.call168⟩|(refine jf h1 ?_)|exact⟨Tryz.call169⟩|refine cpe h2 ?_|exact cSd|apply qc []|refine exr ?_|refine qf ?_)
   |at' a m=>
    rw[hc,if_neg Sx]at h2
    rw[if_neg Sx]
    apply qe []
    repeat' (first|apply Qa|(intro h;try exact cDd)|exact⟨Tryz.call168⟩|(refine jf h1 ?_)|exact⟨Tryz.call169⟩|refine cpe h2 ?_|exact cSd|apply qc []|refine exr ?_|refine qf ?_)
  .rw[if_pos ⟨by decide,h0⟩]
   apply qe []
   repeat' (first|apply Qa|(intro h;try exact cDd)|exact⟨Tryz.call168⟩|(refine jf h1 ?_)|exact cSd|apply qc []|refine exr ?_|refine qf ?_)
 .rw[h]at h1⊢
  have hil:=lt_of_getElem? he
  rw[if_neg (λq=>absurd q.1 Om)]
  rw[show((i:Int)+1).toNat=i+1 from rfl]
  unfold wd at h2⊢
  cases hc:zo fs with
  |no=>
   rw[hc,if_pos rfl]at h2
   rw[if_pos rfl,if_pos rfl]
   by_cases hm:400<=l.many
   .rw[if_pos hm]
    apply qe []
    repeat' (first|apply Qa|(intro h;try exact cDd)|exact⟨Tryz.call168⟩|(refine jf h1 ?_)|exact⟨Tryz.call169⟩|refine cpe h2 ?_|exact cSd|apply qc []|refine exr ?_|refine qf ?_)
   .rw[if_neg hm]
    have h3:=qod (f:=171) (E:=E) (xs:=l.ents.map entA) [Iv ((i+1:Nat):Int),.sl 4 [entA ⟨⟨3,zu fs,fs⟩,l.next⟩] none] rfl (λst c hc=>q7z l.ents ⟨⟨3,zu fs,fs⟩,l.next⟩ (i+1) Om Om st c hc)
    unfold insL
    apply qe []
    repeat' (first|apply Qa|(intro h;try exact cDd)|exact⟨Tryz.call168⟩|(refine jf h1 ?_)|exact⟨Tryz.call169⟩|refine cpe h2 ?_|exact⟨Tryz.call171⟩|(refine jf h3 ?_)|exact cSd|apply qc []|refine exr ?_|refine qf ?_)
  |num m=>
   rw[hc,if_neg Sx]at h2
   rw[if_neg Sx]
   apply qe []
   repeat' (first|apply Qa|(intro h;try exact cDd)|exact⟨Tryz.call168⟩|(refine jf h1 ?_)|exact⟨Tryz.call169⟩|refine cpe h2 ?_|exact cSd|apply qc []|refine exr ?_|refine qf ?_)
  |at' a m=>
   rw[hc,if_neg Sx]at h2
   rw[if_neg Sx]
   apply qe []
   repeat' (first|apply Qa|(intro h;try exact cDd)|exact⟨Tryz.call168⟩|(refine jf h1 ?_)|exact⟨Tryz.call169⟩|refine cpe h2 ?_|exact cSd|apply qc []|refine exr ?_|refine qf ?_)
def ke:Nat->List qq->qo->List Int->ErrV×qo×List Int
 |_,[],l,ids=>(.no,l,ids)
 |k,x::r,l,ids=>if(oneF l x).2.1=.no then ke (k+1) r (oneF l x).2.2 (if 0<(oneF l x).1 then ids++[(oneF l x).1]else ids)else(.at' k (oneF l x).2.1.code,l,ids)
def doF(l:qo)(b:List qq):ErrV×qo×List Int:=if eErr b=.no then ke 0 b l []else(eErr b,l,[])
def doA(r:ErrV×qo×List Int):AV:=match r.1 with
 |.no=>.tu [vc r.2.1,qas r.2.2,errA .no]
 |e=>.tu [.v (.pointer none),qas [],errA e]
theorem q86(r:ErrV×qo×List Int):Pure (doA r):=by
 unfold doA
 split
 .exact yf (qq1 _) (yj _) (v6 _)
 .exact yf (qt _) (yj _) (v6 _)
theorem qlz{l:qo}{x:qq}(h:(oneF l x).2.1≠.no):(oneF l x).2.1.code≠0:=by
 have key:∀fs:List Fld,zo fs≠.no->(zo fs).code≠0:=λfs h h'=>h ((qgu fs).1 h')
 unfold oneF at h⊢
 split
 .rename_i h1
  rw[if_pos h1]at h
  unfold vw at h⊢
  split
  .exact(by decide:(ErrV.num 7).code≠0)
  .rename_i h2
   rw[if_neg h2]at h
   split
   .rename_i h3
    rw[if_pos h3]at h
    exact absurd rfl h
   .exact key _ (by assumption)
 .rename_i h1
  rw[if_neg h1]at h
  split
  .rename_i h2
   rw[if_pos h2]at h
   unfold delF at h⊢
   split
   .exact(by decide:(ErrV.num 7).code≠0)
   .rename_i h3
    rw[if_neg h3]at h
    exact absurd rfl h
  .rename_i h2
   rw[if_neg h2]at h
   unfold insF at h⊢
   split
   .exact(by decide:(ErrV.num 7).code≠0)
   .rename_i h3
    rw[if_neg h3]at h
    split
    .rename_i h4
     rw[if_pos h4]at h
     split
     .exact(by decide:(ErrV.num 11).code≠0)
     .rename_i h5
      rw[if_neg h5]at h
      exact absurd rfl h
    .exact key _ (by assumption)
theorem ze9(n:Nat)(l:qo)(x:qq)(hB:LB n l)(hK:KeyB x.fields)(hl:x.fields.length<1000000):j9 E 87 [.bx 0 0,.a (j6 x)] 2 (hpF (lstH 1 l)) ⟨.tu [.i (oneF l x).1,.a (errA (oneF l x).2.1)],jt (lstH 1 l),lstH 2 (oneF l x).2.2++ku (lstH 1 l),3⟩:=by
 refine v8 [.bx 0 0,.a (j6 x)] (lstH 1 l) 2 (.tu [.i (oneF l x).1,.a (errA (oneF l x).2.1)]) (lstH 2 (oneF l x).2.2) 3 Tryz.func87 rfl rfl rfl rfl λS F ρ=>?_
 unfold oneF
 by_cases h1:x.kind=1
 .rw[if_pos h1]
  have hc:=zdg n l x.id x.fields hB hK hl
  generalize vw l x.id x.fields=r at hc
  apply qe []
  repeat' (first|apply Qa|(intro h;try exact cDd)|exact⟨Tryz.call128⟩|(refine jf hc ?_)|exact cSd|apply qc []|refine exr ?_|refine qf ?_)
 .rw[if_neg h1]
  by_cases h2:x.kind=2
  .rw[if_pos h2]
   have hc:=zfj n l x.id hB
   generalize delF l x.id=r at hc
   apply qe []
   repeat' (first|apply Qa|(intro h;try exact cDd)|exact⟨Tryz.call129⟩|(refine jf hc ?_)|exact cSd|apply qc []|refine exr ?_|refine qf ?_)
  .rw[if_neg h2]
   have hc:=zfl n l x.id x.fields hB hK hl
   generalize insF l x.id x.fields=r at hc
   apply qe []
   repeat' (first|apply Qa|(intro h;try exact cDd)|exact⟨Tryz.call130⟩|(refine jf hc ?_)|exact cSd|apply qc []|refine exr ?_|refine qf ?_)
theorem zgi(n:Nat)(l:qo)(b:List qq)(st:List AObj)(hB:LB n l)(hn:n+40<900000)(hE:∀x∈b,EdB x)(hl:b.length<1000000):ql E 51 [vc l,ji b] st λr st'=>r=doA (doF l b)∧st'=st:=by
 refine qhd [.a (vc l),.a (ji b)] (q86 _) Tryz.func51 rfl rfl (λ_=>rfl) rfl λS0=>?_
 have hck:=λst=>q9g b st _ rfl hE Om
 unfold doF
 cases he:eErr b with
 |num m=>
  rw[he]at hck
  rw[if_neg Sx]
  apply qe []
  repeat' (first|apply Qa|(intro h;try exact cDd)|exact⟨Tryz.call63⟩|refine cpe hck ?_|exact cSd|apply qc []|refine exr ?_|refine qf ?_)
 |at' a m=>
  rw[he]at hck
  rw[if_neg Sx]
  apply qe []
  repeat' (first|apply Qa|(intro h;try exact cDd)|exact⟨Tryz.call63⟩|refine cpe hck ?_|exact cSd|apply qc []|refine exr ?_|refine qf ?_)
 |no=>
  rw[he]at hck
  rw[if_pos rfl]
  obtain⟨hb1,hb40,hg⟩:=qge he
  have hcp:=zc7 l (by have:=hB.len;omega)
  apply qe []
  repeat' (first|apply Qa|(intro h;try exact cDd)|exact⟨Tryz.call63⟩|refine cpe hck ?_|exact⟨Tryz.call86⟩|(refine jf hcp ?_)|exact cSd|apply qc []|refine exr ?_|refine qf ?_)
  refine zl (X:=Nat×qo×List Int) (λ(k,q,ids)=>⟨[(8,.bx 0 0),(9,.tp 2),(21,.a (ji b)),(22,.i b.length),(23,.i k)],[(0,some (.cells 105 [.tp 1,.i q.next,.i q.many])),(1,some (.own 4 109 (q.ents.map entA))),(2,some (.tip 1 3 (ids.map λx=>Iv x)))],3⟩)
   (λ(k,q,ids)=>k<=b.length∧LB (n+k) q∧ids.length<=k∧ke k (b.drop k) q ids=ke 0 b l []) (λ(k,q,ids)=>b.length-k) (0,l,[]) ⟨Om,hB,Sx,rfl⟩ ?_ ?_
  .skip
   repeat' (first|apply Qa|(intro h;try exact cDd)|exact cSd|apply qc []|refine exr ?_|refine qf ?_)
   all_goals (simp;done)
  .rintro⟨k,q,ids⟩ ⟨hk,hq,hil,hrun⟩
   by_cases hkn:k<b.length
   .have hx:b[k]?=some b[k]:=Qc hkn
    have hxm:(b.map j6)[k]?=some (j6 b[k]):=by rw[Qe,hx];rfl
    have hxE:=hE b[k] (Qx hkn)
    have hxf:=(qgh (hg b[k] (Qx hkn))).1
    rw[Qf hkn,ke]at hrun
    have hidl:(ids.map λx=>Iv x).length=ids.length:=Sx
    generalize b[k]=x at hx hxm hxE hxf hrun
    have hon:=ze9 (n+k) q x hq hxE.keys Om
    have hlb:=qmt hq Om x
    have hcd:=λh=>qlz (l:=q) (x:=x) h
    generalize oneF q x=o at hon hlb hcd hrun
    obtain⟨id,e,q'⟩:=o
    dsimp only at hon hlb hcd hrun
    cases e with
    |no=>
     rw[if_pos rfl]at hrun
     by_cases h0:0<id
     .rw[if_pos h0]at hrun
      apply qe []
      repeat' (first|apply Qa|(intro h;try exact cDd)|(refine Qb (k) ⟨Om,_,hxm,?_⟩)|exact⟨Tryz.call87⟩|(refine jf hon ?_)|(refine Qb (k+1,q',ids++[id]) ⟨⟨Om,hlb,So,hrun⟩,by simp only;omega,?_⟩)|exact cSd|apply qc []|refine exr ?_|refine qf ?_)
      all_goals first|(simp;done)|(simp;omega)
     .rw[if_neg h0]at hrun
      apply qe []
      repeat' (first|apply Qa|(intro h;try exact cDd)|(refine Qb (k) ⟨Om,_,hxm,?_⟩)|exact⟨Tryz.call87⟩|(refine jf hon ?_)|(refine Qb (k+1,q',ids) ⟨⟨Om,hlb,by first|omega|(simp only;omega),hrun⟩,by simp only;omega,?_⟩)|exact cSd|apply qc []|refine exr ?_|refine qf ?_)
      all_goals first|(simp;done)|(simp;omega)
    |num m=>
     rw[if_neg Sx]at hrun
     rw[<-hrun]
     have hft:=λst=>qof k (.num m) st (hcd Sx)
     apply qe []
     repeat' (first|apply Qa|(intro h;try exact cDd)|(refine Qb (k) ⟨Om,_,hxm,?_⟩)|exact⟨Tryz.call87⟩|(refine jf hon ?_)|exact⟨Tryz.call88⟩|refine cpe hft ?_|exact cSd|apply qc []|refine exr ?_|refine qf ?_)
    |at' a m=>
     rw[if_neg Sx]at hrun
     rw[<-hrun]
     have hft:=λst=>qof k (.at' a m) st (hcd Sx)
     apply qe []
     repeat' (first|apply Qa|(intro h;try exact cDd)|(refine Qb (k) ⟨Om,_,hxm,?_⟩)|exact⟨Tryz.call87⟩|(refine jf hon ?_)|exact⟨Tryz.call88⟩|refine cpe hft ?_|exact cSd|apply qc []|refine exr ?_|refine qf ?_)
   .have hkn:k=b.length:=by omega
    subst hkn
    rw[Qu,ke]at hrun
    rw[<-hrun]
    apply qe []
    repeat' (first|apply Qa|(intro h;try exact cDd)|exact cSd|apply qc []|refine exr ?_|refine qf ?_)
structure RunV where
 l:qo
 given:List (List Int)
 touched:List Int
def zf9(b:List qq):List Int:=(b.filter λx=>decide (x.kind≠3)).map λx=>x.id
def zgs(r:RunV)(b:List qq):RunV:=⟨(doF r.l b).2.1,r.given++[(doF r.l b).2.2],r.touched++zf9 b⟩
def qyh:List (List qq)->RunV->ErrV×RunV
 | [],r=>(.no,r)
 |b::q,r=>if(doF r.l b).1=.no then qyh q (zgs r b)else(.at' r.given.length 10,r)
def zgm(base:qd)(bs:List (List qq)):ErrV×RunV:=if zn base=.no then qyh bs ⟨ofF (itsE base),[],[]⟩else(zn base,⟨ofF [],[],[]⟩)
theorem qmn{n m:Nat}{l:qo}(h:LB n l)(hm:n<=m)(hs:m<900000):LB m l:=by
 have h1:=h.len;have h2:=h.nx0;have h3:=h.nx1;have h4:=h.mn0;have h5:=h.mn1
 exact⟨hs,Om,h2,Om,Om,Om⟩
theorem qtm:∀(b:List qq)(k n:Nat)(l:qo)(ids:List Int),LB n l->n+b.length<900000->LB (n+b.length) (ke k b l ids).2.1
 | [],k,n,l,ids,h,_=>h
 |x::r,k,n,l,ids,h,hs=>by
  simp only[Qi]at hs⊢
  unfold ke
  split
  .have:=qtm r (k+1) (n+1) (oneF l x).2.2 (if 0<(oneF l x).1 then ids++[(oneF l x).1]else ids) (qmt h Om x) Om
   rw[show n+(r.length+1)=n+1+r.length by omega]
   exact this
  .have h1:=h.len;have h2:=h.nx0;have h3:=h.nx1;have h4:=h.mn0;have h5:=h.mn1
   exact⟨Om,by simp only;omega,h2,by simp only;omega,by simp only;omega,by simp only;omega⟩
theorem ze3{n:Nat}{l:qo}(h:LB n l)(hs:n+40<900000)(b:List qq):LB (n+40) (doF l b).2.1:=by
 unfold doF
 split
 .rename_i he
  obtain⟨h1,h2,_⟩:=qge he
  exact qmn (qtm b 0 n l [] h Om) Om hs
 .exact qmn h Om hs
theorem q62:∀(its:List qx)(n:Nat)(l:qo),LB n l->n+its.length<900000->LB (n+its.length) (its.foldl vi l)
 | [],n,l,h,_=>h
 |x::r,n,l,h,hs=>by
  simp only[Qi]at hs⊢
  rw[Zm,show n+(r.length+1)=n+1+r.length by omega]
  refine q62 r (n+1) _ ?_ Om
  have h1:=h.len;have h2:=h.nx0;have h3:=h.nx1;have h4:=h.mn0;have h5:=h.mn1
  unfold vi
  split
  .exact⟨Om,So,by simp only;omega,by simp only;omega,by simp only;omega,by simp only;omega⟩
  .exact⟨Om,So,h2,by simp only;omega,by simp only;omega,by simp only;omega⟩
theorem qay(text:qd):LB 300000 (ofF (itsE text)):=by
 have h:=qoq text
 have:=q62 (itsE text) 0 ⟨[],1,0⟩ ⟨Om,Sx,Sx,Sx,Sx,Sx⟩ Om
 exact qmn this Om Om
end Go.Proofs.YtapblfabkbdgcaaGreatDoor
namespace Go.Pl
open Go Go.Proofs Go.Proofs.YtapblfabkbdgcaaGreatDoor
def trL(ls:List qd):List (qd×Bool):=ls.map λs=>(s,true)
def now0:qx:=⟨2,[],[]⟩
def blkR:Bool->qx->List qd->Option qx
 |_,now,[]=>some now
 |prev,now,t::r=>
  if jj prev t true (trL r) now.fields.length 0≠0∨qn t=1 then none
  else if qn t=4 then blkR true ⟨3,now.raw++t++[10],now.fields++[(z7 (t::j8 (trL r))).1]⟩ r
  else blkR (decide (qn t=3)) ⟨now.kind,now.raw++t++[10],now.fields⟩ r
def qvi:List (qd×Bool)->Prop
 | []=>True
 |(t,_)::_=>qn t=1
theorem qia:∀(ls:List qd)(rest:List (qd×Bool)),qvi rest->j8 (trL ls++rest)=j8 (trL ls)
 | [],[],_=>rfl
 | [],(t,e)::r,h=>by
  have h:qn t=1:=h
  show(if qn t=3 then _ else _)=_
  rw[if_neg Om]
  rfl
 |t::r,rest,h=>by
  show(if qn t=3 then t::j8 (trL r++rest)else [])=(if qn t=3 then t::j8 (trL r)else [])
  rw[qia r rest h]
theorem qkr(prev:Bool)(t:qd)(ls:List qd)(rest:List (qd×Bool))(n:Nat)(rec:Int)(h:qvi rest):jj prev t true (trL ls++rest) n rec=jj prev t true (trL ls) n rec:=by
 unfold jj
 rw[qia ls rest h]
theorem q8i{prev:Bool}{t:qd}{L:List (qd×Bool)}{n:Nat}{rec:Int}(h:jj prev t true L n 0=0)(hr:qn t=4->n=0->rec<400):jj prev t true L n rec=0:=by
 unfold jj at h⊢
 split
 .rename_i h1;rw[if_pos h1]at h;exact h
 .rename_i h1
  rw[if_neg h1]at h
  split
  .rfl
  .rename_i h4
   rw[if_neg h4]at h
   split
   .rename_i hu;rw[if_pos hu]at h;exact h
   .rename_i hu
    rw[if_neg hu]at h
    have h4:=Classical.not_not.1 h4
    rw[if_neg]
    intro hh
    rcases hh with hh|hh
    .rw[if_pos (.inl hh)]at h;omega
    .have:=hr h4 hh.1;omega
theorem qr1{prev:Bool}{t:qd}{e:Bool}{L:List (qd×Bool)}{n:Nat}{rec:Int}(h:jj prev t e L n rec=0):jj prev t e L n 0=0:=by
 unfold jj at h⊢
 split
 .rename_i h1;rw[if_pos h1]at h;exact h
 .rename_i h1
  rw[if_neg h1]at h
  split
  .rfl
  .rename_i h4
   rw[if_neg h4]at h
   split
   .rename_i hu;rw[if_pos hu]at h;exact h
   .rename_i hu
    rw[if_neg hu]at h
    rw[if_neg]
    intro hh
    rcases hh with hh|hh
    .rw[if_pos (.inl hh)]at h;omega
    .omega
theorem q8h{prev:Bool}{t:qd}{e:Bool}{L:List (qd×Bool)}{n:Nat}{rec:Int}(h:jj prev t e L n rec=0):e=true∧10∉t:=by
 unfold jj at h
 split at h
 .omega
 .rename_i h1
  refine⟨by cases e with|true=>rfl|false=>exact absurd (.inr (.inr rfl)) h1,λh10=>h1 (.inl ?_)⟩
  unfold qn
  rw[if_pos h10]
theorem qn6{prev:Bool}{t:qd}{L:List (qd×Bool)}{n:Nat}{rec:Int}(h:qn t=1):jj prev t true L n rec=0:=by
 unfold jj
 rw[if_neg (by simp[h]),if_pos Om]
theorem qhr:∀(ls:List qd)(prev:Bool)(now x:qx),blkR prev now ls=some x->now.kind=3->x.kind=3
 | [],_,now,x,h,hk=>by cases h;exact hk
 |t::r,prev,now,x,h,hk=>by
  rw[blkR]at h
  split at h
  .cases h
  .split at h
   .exact qhr r _ _ _ h rfl
   .exact qhr r _ _ _ h hk
theorem qmi:∀(ls:List qd)(prev:Bool)(now x:qx),blkR prev now ls=some x->x.raw=now.raw++zb ls
 | [],_,now,x,h=>by cases h;simp[zb]
 |t::r,prev,now,x,h=>by
  rw[blkR]at h
  split at h
  .cases h
  .split at h
   .rw[qmi r _ _ _ h,x7];simp
   .rw[qmi r _ _ _ h,x7];simp
def qkz(x:qx):Prop:=x.kind=3∧x.fields≠[]∨x.kind=2∧x.fields=[]
theorem qiz:∀(ls:List qd)(k:Nat)(prev:Bool)(now x:qx)(rec:Int)(out:List qx)(rest:List (qd×Bool)),qvi rest->blkR prev now ls=some x->qkz now->(now.kind=2->x.kind=3->rec<400)->
  (∃prev',refL k (trL ls++rest) prev now rec out=refL (k+ls.length) rest prev' x (if now.kind=2∧x.kind=3 then rec+1 else rec) out)∧qkz x
 | [],k,prev,now,x,rec,out,rest,hs,h,hk,hr=>by
  cases h
  refine⟨⟨prev,?_⟩,hk⟩
  rw[if_neg Om]
  rfl
 |t::r,k,prev,now,x,rec,out,rest,hs,h,hk,hr=>by
  rw[blkR]at h
  split at h
  .cases h
  .rename_i hc
   simp only[not_or,Classical.not_not]at hc
   have hrec:qn t=4->now.fields.length=0->rec<400:=λh4 h0=>by
    rw[if_pos h4]at h
    rcases hk with hk|hk
    .exact absurd (Zu.1 h0) hk.2
    .exact hr hk.1 (qhr r _ _ _ h rfl)
   have hw:jj prev t true (trL r++rest) now.fields.length rec=0:=by
    rw[qkr _ _ _ _ _ _ hs]
    exact q8i hc.1 hrec
   have hst:trL (t::r)++rest=(t,true)::(trL r++rest):=rfl
   rw[hst,refL,if_neg (by simp[hw]),if_neg hc.2]
   split at h
   .rename_i h4
    rw[if_pos h4,qia r rest hs]
    have hx3:=qhr r _ _ _ h rfl
    obtain⟨⟨p',e⟩,hkx⟩:=qiz r (k+1) _ _ x (if now.kind=2 then rec+1 else rec) out rest hs h (.inl ⟨rfl,Sx⟩) Sx
    refine⟨⟨p',?_⟩,hkx⟩
    rw[e,if_neg Sx]
    simp only[hx3,and_true,Qi]
    congr 1
    omega
   .rename_i h4
    rw[if_neg h4]
    obtain⟨⟨p',e⟩,hkx⟩:=qiz r (k+1) _ _ x rec out rest hs h hk hr
    refine⟨⟨p',?_⟩,hkx⟩
    rw[e,Qi]
    congr 1
    omega
theorem qsu:∀(L:List (qd×Bool))(k:Nat)(prev:Bool)(now:qx)(rec:Int)(out its:List qx),refL k L prev now rec out=(none,its)->
  ∃(ls:List qd)(rest:List (qd×Bool))(prev':Bool)(x:qx)(rec':Int)(k':Nat),L=trL ls++rest∧qvi rest∧blkR prev now ls=some x∧refL k' rest prev' x rec' out=(none,its)∧∀t∈ls,10∉t
 | [],k,prev,now,rec,out,its,h=>⟨[],[],prev,now,rec,k,rfl,trivial,rfl,h,Sx⟩
 |(t,e)::r,k,prev,now,rec,out,its,h=>by
  have h0:=h
  rw[refL]at h
  split at h
  .simp at h
  .rename_i hw
   have hw:=Classical.not_not.1 hw
   obtain⟨rfl,h10⟩:=q8h hw
   split at h
   .rename_i h1
    exact⟨[],(t,true)::r,prev,now,rec,k,rfl,h1,rfl,h0,Sx⟩
   .rename_i h1
    split at h
    .rename_i h4
     obtain⟨ls,rest,p',x,rc,k',rfl,hs,hb,hr,hten⟩:=qsu r _ _ _ _ _ _ h
     rw[qia ls rest hs]at hb
     rw[qkr _ _ _ _ _ _ hs]at hw
     refine⟨t::ls,rest,p',x,rc,k',rfl,hs,?_,hr,by simpa using⟨h10,hten⟩⟩
     rw[blkR,if_neg (by simp[qr1 hw,h1]),if_pos h4]
     exact hb
    .rename_i h4
     obtain⟨ls,rest,p',x,rc,k',rfl,hs,hb,hr,hten⟩:=qsu r _ _ _ _ _ _ h
     rw[qkr _ _ _ _ _ _ hs]at hw
     refine⟨t::ls,rest,p',x,rc,k',rfl,hs,?_,hr,by simpa using⟨h10,hten⟩⟩
     rw[blkR,if_neg (by simp[qr1 hw,h1]),if_neg h4]
     exact hb
def xp(x:qx):Prop:=(∃t,x=⟨1,t++[10],[]⟩∧qn t=1)∨∃ls,ls≠[]∧blkR false now0 ls=some x∧∀t∈ls,10∉t
theorem qua(out:List qx):outR now0 out=out:=rfl
theorem qt4{t:qd}(h:qn t=1):10∉t:=λh10=>by
 unfold qn at h
 rw[if_pos h10]at h
 omega
theorem q7t:∀(n:Nat)(L:List (qd×Bool))(k:Nat)(rec:Int)(out its:List qx),L.length<=n->refL k L false now0 rec out=(none,its)->(∀x∈out,xp x)->∀x∈its,xp x:=by
 intro n
 induction n with
 |zero=>
  intro L k rec out its hn h ho
  have:L=[]:=Zu.1 Om
  subst this
  have h:(none,outR now0 out)=(none,its):=h
  simp only[Zx,true_and]at h
  subst h
  exact ho
 |succ n ih=>
  intro L k rec out its hn h ho
  obtain⟨ls,rest,p',x,rc,k',rfl,hs,hb,hr,hten⟩:=qsu L _ _ _ _ _ _ h
  have hout:∀y∈outR x out,xp y:=λy hy=>by
   unfold outR at hy
   split at hy
   .exact ho y hy
   .rename_i hx
    rcases Qh.1 hy with hy|hy
    .exact ho y hy
    .simp only[Qk,Qv,or_false]at hy
     subst hy
     refine .inr ⟨ls,λe=>hx ?_,hb,hten⟩
     subst e
     cases hb
     rfl
  cases rest with
  |nil=>
   have hr:(none,outR x out)=(none,its):=hr
   simp only[Zx,true_and]at hr
   subst hr
   exact hout
  |cons y r=>
   obtain⟨t,e⟩:=y
   have h1:qn t=1:=hs
   rw[refL]at hr
   split at hr
   .simp at hr
   .try rw[if_pos h1]at hr
    refine ih r _ _ _ _ (by simp at hn;omega) hr λy hy=>?_
    rcases Qh.1 hy with hy|hy
    .exact hout y hy
    .simp only[Qk,Qv,or_false]at hy
     subst hy
     exact .inl ⟨t,rfl,h1⟩
theorem ql0{text:qd}(h:(jq text).1=none):∀x∈(jq text).2,xp x:=by
 refine q7t _ (zy text) 0 0 [] _ (Zw _) ((qbn text).trans (Xf h rfl)) Sx
theorem qz6{fs:List Fld}(hg:GF fs)(hne:fs≠[]):xp ⟨3,zu fs,fs⟩:=by
 have h:=q38 hg hne
 exact ql0 (by rw[h]) _ (by rw[h];simp)
def SepI:List qx->Prop
 | []=>True
 | [_]=>True
 |x::y::r=>(x.kind≠1->y.kind=1)∧SepI (y::r)
def cntI(its:List qx):Nat:=its.countP λx=>x.kind=3
theorem qlr:∀(ls:List qd)(R:qd),(∀s∈ls,10∉s)->zy (zb ls++R)=trL ls++zy R
 | [],R,_=>rfl
 |s::r,R,h=>by
  have hs:=h s Sx
  have e:zb (s::r)++R=s++10::(zb r++R):=by rw[x7];simp
  rw[e,wz Sx,xy _ hs,yw _ hs,qlr r R λx hx=>h x (by simp[hx])]
  simp[trL]
theorem qnu{t:qd}{R:qd}(h:10∉t):zy (t++[10]++R)=(t,true)::zy R:=by
 have:=qlr [t] R (by simpa using h)
 simpa[zb,trL]using this
theorem qio{x:qx}(h:xp x):x.kind=1∧(∃t,x=⟨1,t++[10],[]⟩∧qn t=1)∨qkz x∧x.raw≠[]∧∃ls,ls≠[]∧blkR false now0 ls=some x∧∀t∈ls,10∉t:=by
 rcases h with⟨t,rfl,ht⟩|⟨ls,hne,hb,hten⟩
 .exact .inl ⟨rfl,t,rfl,ht⟩
 .refine .inr ⟨(qiz ls 0 false now0 x 0 [] [] trivial hb (.inr ⟨rfl,rfl⟩) Om).2,?_,ls,hne,hb,hten⟩
  rw[qmi _ _ _ _ hb]
  cases ls with
  |nil=>exact absurd rfl hne
  |cons t r=>simp[zb,now0]
theorem qj5:∀(its:List qx)(k:Nat)(rec:Int)(out:List qx),(∀x∈its,xp x)->SepI its->rec+cntI its<=400->refL k (zy (zw its)) false now0 rec out=(none,out++its)
 | [],k,rec,out,_,_,_=>by
  have:zw []=[]:=rfl
  rw[this,vm]
  simp[refL,qua]
 |x::r,k,rec,out,hok,hsep,hc=>by
  have hraw:zw (x::r)=x.raw++zw r:=rfl
  rw[hraw]
  rcases qio (hok x Sx)with⟨hk1,t,rfl,ht⟩|⟨hkx,hrx,ls,hne,hb,hten⟩
  .rw[qnu (qt4 ht),refL,if_neg (by rw[qn6 ht];simp),if_pos ht,qua]
   have hs:SepI r:=by cases r with|nil=>trivial|cons y q=>exact hsep.2
   have:=qj5 r (k+1) rec (out++[⟨1,t++[10],[]⟩]) (λy hy=>hok y (by simp[hy])) hs (by simpa[cntI]using hc)
   rw[show(⟨2,[],[]⟩:qx)=now0 from rfl,this]
   simp
  .have hx1:x.kind≠1:=by rcases hkx with h|h<;>omega
   have hc3:x.kind=3->rec<400:=λh=>by simp[cntI,h]at hc;omega
   have hre:x.raw=zb ls:=by rw[qmi _ _ _ _ hb];rfl
   rw[hre,qlr ls _ hten]
   match r,hok,hsep,hc with
   | [],hok,hsep,hc=>
    have:zw []=[]:=rfl
    rw[this,vm]
    obtain⟨⟨p',e⟩,_⟩:=qiz ls k false now0 x rec out [] trivial hb (.inr ⟨rfl,rfl⟩) λ_ h=>hc3 h
    rw[e,refL]
    unfold outR
    rw[if_neg hrx]
   |y::q,hok,hsep,hc=>
    have hy1:=hsep.1 hx1
    rcases qio (hok y Sx)with⟨_,t,rfl,ht⟩|⟨hky,_⟩
    .have hraw:zw (⟨1,t++[10],[]⟩::q)=(t++[10])++zw q:=rfl
     rw[hraw,qnu (qt4 ht)]
     obtain⟨⟨p',e⟩,_⟩:=qiz ls k false now0 x rec out ((t,true)::zy (zw q)) ht hb (.inr ⟨rfl,rfl⟩) λ_ h=>hc3 h
     rw[e,refL,if_neg (by rw[qn6 ht];simp),if_pos ht]
     have hs:SepI q:=by cases q with|nil=>trivial|cons z q'=>exact hsep.2.2
     have ho:outR x out=out++[x]:=by unfold outR;rw[if_neg hrx]
     rw[ho,show(⟨2,[],[]⟩:qx)=now0 from rfl]
     have hcc:(if now0.kind=2∧x.kind=3 then rec+1 else rec)+(cntI q:Int)<=400:=by
      simp only[cntI,Xb]at hc⊢
      by_cases h3:x.kind=3
      .rw[if_pos ⟨rfl,h3⟩]
       simp[h3]at hc
       omega
      .rw[if_neg λh=>h3 h.2]
       simp[h3]at hc
       omega
     rw[qj5 q _ _ _ (λy hy=>hok y (by simp[hy])) hs hcc]
     simp
    .exfalso
     rcases hky with h|h<;>omega
theorem yu(a b:List qx):cntI (a++b)=cntI a+cntI b:=by simp[cntI]
theorem wq(x:qx)(b:List qx):cntI (x::b)=(if x.kind=3 then 1 else 0)+cntI b:=by
 simp only[cntI,Xb,decide_eq_true_eq]
 omega
theorem qs5:∀(its:List qx)(prev:Bool),SepI (je prev its)∧(prev=true->∀x,(je prev its).head?=some x->x.kind=1)
 | [],prev=>⟨trivial,by simp[je]⟩
 |x::r,prev=>by
  obtain⟨h1,h2⟩:=qs5 r (decide (x.kind≠1))
  have key:SepI (x::je (decide (x.kind≠1)) r):=by
   cases hq:je (decide (x.kind≠1)) r with
   |nil=>trivial
   |cons y q=>
    rw[hq]at h1 h2
    exact⟨λhk=>h2 (by simpa using hk) y rfl,h1⟩
  rw[je]
  by_cases hp:prev=true∧x.kind≠1
  .rw[if_pos hp]
   exact⟨⟨λh=>absurd rfl h,key⟩,λ_ y hy=>by simp at hy;subst hy;rfl⟩
  .rw[if_neg hp]
   exact⟨key,λhpr y hy=>by
    simp at hy
    subst hy
    exact Classical.byContradiction λh=>hp ⟨hpr,h⟩⟩
theorem qwi:∀(its:List qx)(prev:Bool),(∀x∈its,xp x)->(∀x∈je prev its,xp x)∧cntI (je prev its)=cntI its
 | [],prev,_=>by simp[je]
 |x::r,prev,h=>by
  obtain⟨h1,h2⟩:=qwi r (decide (x.kind≠1)) λy hy=>h y (by simp[hy])
  have hx:=h x Sx
  have hbl:xp ⟨1,[10],[]⟩:=.inl ⟨[],rfl,by decide⟩
  rw[je]
  split
  .refine⟨λy hy=>?_,by simp only[Zi,Zb,wq];rw[h2];try simp⟩
   simp only[Zi,Zb,Qk]at hy
   rcases hy with rfl|rfl|hy
   .exact hbl
   .exact hx
   .exact h1 y hy
  .refine⟨λy hy=>?_,by simp only[Zi,Zb,wq];rw[h2];try simp⟩
   simp only[Zi,Zb,Qk]at hy
   rcases hy with rfl|hy
   .exact hx
   .exact h1 y hy
theorem qyd{its:List qx}(h:∀x∈its,xp x)(hc:cntI its<=400):jq (zw (wn its))=(none,wn its):=by
 obtain⟨h1,h2⟩:=qwi its false h
 have:=qj5 (wn its) 0 0 [] h1 (qs5 its false).1 (by unfold wn;rw[h2];omega)
 rw[Zb]at this
 rw[<-qbn]
 exact this
theorem qx9{now:qx}{out:List qx}(hk:qkz now)(hr:now.kind=3->now.raw≠[]):(cntI (outR now out):Int)=(cntI out:Int)+(if now.kind=3 then 1 else 0):=by
 have h0:cntI []=0:=rfl
 unfold outR
 by_cases he:now.raw=[]
 .rw[if_pos he,if_neg λh=>hr h he]
  omega
 .rw[if_neg he,yu,wq,h0]
  by_cases h3:now.kind=3
  .rw[if_pos h3,if_pos h3];omega
  .rw[if_neg h3,if_neg h3];omega
theorem qmy:∀(L:List (qd×Bool))(k:Nat)(prev:Bool)(now:qx)(rec:Int)(out its:List qx),refL k L prev now rec out=(none,its)->qkz now->(now.kind=3->now.raw≠[])->(cntI out:Int)+(if now.kind=3 then 1 else 0)=rec->rec<=400->cntI its<=400
 | [],k,prev,now,rec,out,its,h,hk,hr,hc,hm=>by
  have h:(none,outR now out)=(none,its):=h
  simp only[Zx,true_and]at h
  subst h
  have:=qx9 (out:=out) hk hr
  omega
 |(t,e)::r,k,prev,now,rec,out,its,h,hk,hr,hc,hm=>by
  rw[refL]at h
  split at h
  .simp at h
  .rename_i hw
   have hw:=Classical.not_not.1 hw
   split at h
   .refine qmy r _ _ _ _ _ _ h (.inr ⟨rfl,rfl⟩) Sx ?_ hm
    have:=qx9 (out:=out) hk hr
    rw[yu,wq,show cntI []=0 from rfl,if_neg (by omega:¬(1:Int)=3),if_neg (by omega:¬(2:Int)=3)]
    omega
   .split at h
    .rename_i h4
     refine qmy r _ _ _ _ _ _ h (.inl ⟨rfl,Sx⟩) Sx ?_ ?_
     .rcases hk with hk|hk
      .rw[if_pos hk.1]at hc
       rw[if_pos rfl,if_neg Om]
       exact hc
      .rw[if_neg Om]at hc
       rw[if_pos rfl,if_pos hk.1]
       omega
     .rcases hk with hk|hk
      .rw[if_neg Om];exact hm
      .rw[if_pos hk.1]
       unfold jj at hw
       split at hw
       .omega
       .rw[if_neg Om]at hw
        split at hw
        .omega
        .split at hw
         .omega
         .rename_i hf
          have:now.fields.length=0:=by rw[hk.2];rfl
          omega
    .exact qmy r _ _ _ _ _ _ h hk (λh3=>by simp) hc hm
theorem q7d{text:qd}(h:(jq text).1=none):cntI (jq text).2<=400:=
 qmy (zy text) 0 false now0 0 [] _ ((qbn text).trans (Xf h rfl)) (.inr ⟨rfl,rfl⟩) (by simp[now0]) (by simp[cntI,now0]) Om
structure GL (l:qo):Prop where
 ok:∀e∈l.ents,xp e.x∧(0<e.id↔e.x.kind=3)
 nx:1<=l.next
 mn:l.many=cntI (zm l)
 le:cntI (zm l)<=400
theorem q64{l:qo}{x:qx}(h:GL l)(hx:xp x)(hc:cntI (zm l)+cntI [x]<=400):GL (vi l x):=by
 obtain⟨h1,h2,h3,h4⟩:=h
 rw[wq]at hc
 unfold vi
 by_cases hk:x.kind=3
 .rw[if_pos hk]
  refine⟨λe he=>?_,by simp only;omega,?_,?_⟩
  .rcases Qh.1 he with he|he
   .exact h1 e he
   .simp only[Qk,Qv,or_false]at he
    subst he
    exact⟨hx,λ_=>hk,λ_=>by show 0<l.next;omega⟩
  .simp only[zm,Qs,yu,Zf,Zt,wq]at h3⊢
   rw[if_pos hk]
   simp[cntI]at h3⊢
   omega
  .rw[if_pos hk]at hc
   simp only[zm,Qs,yu,Zf,Zt,wq]at hc⊢
   rw[if_pos hk]
   exact hc
 .rw[if_neg hk]
  refine⟨λe he=>?_,h2,?_,?_⟩
  .rcases Qh.1 he with he|he
   .exact h1 e he
   .simp only[Qk,Qv,or_false]at he
    subst he
    exact⟨hx,by simp[hk]⟩
  .simp only[zm,Qs,yu,Zf,Zt,wq]at h3⊢
   rw[if_neg hk]
   simp[cntI]at h3⊢
   omega
  .rw[if_neg hk]at hc
   simp only[zm,Qs,yu,Zf,Zt,wq]at hc⊢
   rw[if_neg hk]
   exact hc
theorem q0e(l:qo)(x:qx):zm (vi l x)=zm l++[x]:=by
 unfold vi zm
 split <;>simp
theorem qt8:∀(its:List qx)(l:qo),GL l->(∀x∈its,xp x)->cntI (zm l)+cntI its<=400->GL (its.foldl vi l)
 | [],l,h,_,_=>h
 |x::r,l,h,hx,hc=>by
  rw[wq]at hc
  refine qt8 r (vi l x) (q64 h (hx x Sx) ?_) (λy hy=>hx y (by simp[hy])) ?_
  .rw[wq,show cntI []=0 from rfl];omega
  .rw[q0e,yu,wq]
   rw[show cntI []=0 from rfl]
   omega
theorem zfr{its:List qx}(hx:∀x∈its,xp x)(hc:cntI its<=400):GL (ofF its):=
 qt8 its ⟨[],1,0⟩ ⟨Sx,Sx,by simp[zm,cntI],by simp[zm,cntI]⟩ hx (by simpa[zm,cntI]using hc)
theorem qyg{fs:List Fld}(h:zo fs=.no):xp (wd fs)∧(wd fs).kind=3:=by
 obtain⟨h1,h2,h3⟩:=qa4 h
 unfold wd
 rw[if_pos h]
 exact⟨qz6 ⟨h2,h3⟩ h1,rfl⟩
theorem qla{l:List qx}{i:Nat}{x:qx}(h:l[i]?=some x):cntI l=cntI (l.take i)+(if x.kind=3 then 1 else 0)+cntI (l.drop (i+1)):=by
 obtain⟨hlt,rfl⟩:=Zc.1 h
 have:=congrArg cntI (Qg i l)
 rw[yu,Qf hlt,wq]at this
 omega
theorem zam{l:qo}(h:GL l)(id:Int)(fs:List Fld):GL (vw l id fs).2:=by
 unfold vw
 split
 .exact h
 .rename_i ha
  split
  .rename_i hf
   obtain⟨hp,hp3⟩:=qyg hf
   rcases qd4 l id with g|⟨i,e,g1,g2,g3,g4⟩
   .omega
   .rw[g1,Qm]
    unfold qe4
    rw[g2]
    simp only
    have hem:=Zl g2
    obtain⟨hlt,hge⟩:=Zc.1 g2
    have hek:e.x.kind=3:=(h.ok e hem).2.1 Om
    have hcnt:cntI ((l.ents.set i ⟨wd fs,e.id⟩).map λe=>e.x)=cntI (l.ents.map λe=>e.x):=by
     have a1:=qla (l:=l.ents.map λe=>e.x) (i:=i) (x:=e.x) (by simp[g2])
     have a2:=qla (l:=(l.ents.set i ⟨wd fs,e.id⟩).map λe=>e.x) (i:=i) (x:=wd fs) (by simp[hlt])
     rw[a1,a2,<-Zo,<-Zo,<-Zp,<-Zp,List.take_set_of_le (Zw _),List.drop_set_of_lt Om,hek,hp3]
    refine⟨λy hy=>?_,h.nx,?_,?_⟩
    .rcases Zq hy with hy|rfl
     .exact h.ok y hy
     .exact⟨hp,λ_=>hp3,λ_=>by show 0<e.id;omega⟩
    .exact h.mn.trans (congrArg Int.ofNat hcnt).symm
    .exact Nat.le_trans (Nat.le_of_eq hcnt) h.le
  .exact h
theorem zcb{l:qo}(h:GL l)(id:Int):GL (delF l id).2:=by
 unfold delF
 split
 .exact h
 .rcases qd4 l id with g|⟨i,e,g1,g2,g3,g4⟩
  .omega
  .rw[g1,Qm]
   have hem:=Zl g2
   have hek:e.x.kind=3:=(h.ok e hem).2.1 Om
   have a1:=qla (l:=zm l) (i:=i) (x:=e.x) (by simp[zm,g2])
   rw[hek,if_pos rfl]at a1
   have a2:cntI (zm (delL l i))=cntI ((zm l).take i)+cntI ((zm l).drop (i+1)):=by
    unfold delL zm
    rw[Qs,yu,Zo,Zp]
   have hm:=h.mn
   have hl:=h.le
   refine⟨λy hy=>?_,h.nx,?_,?_⟩
   .rcases Qh.1 hy with hy|hy
    .exact h.ok y (Qy hy)
    .exact h.ok y (Qz hy)
   .rw[a2]
    show l.many-1=_
    omega
   .rw[a2]
    omega
theorem zcw{l:qo}(h:GL l)(id:Int)(fs:List Fld):GL (insF l id fs).2.2:=by
 unfold insF
 split
 .exact h
 .split
  .rename_i hf
   obtain⟨hp,hp3⟩:=qyg hf
   split
   .exact h
   .rename_i hm4
    generalize(atF l id+1).toNat=k
    have a1:cntI (zm (insL l k (wd fs)))=cntI (zm l)+1:=by
     unfold insL zm
     rw[Qs,yu,Zf,wq,hp3,if_pos rfl,Zo,Zp]
     have:=congrArg cntI (Qg k (l.ents.map λe=>e.x))
     rw[yu]at this
     omega
    have hm:=h.mn
    have hl:=h.le
    have hn:=h.nx
    refine⟨λy hy=>?_,?_,?_,?_⟩
    .rcases Qh.1 hy with hy|hy
     .exact h.ok y (Qy hy)
     .rcases Qk.1 hy with rfl|hy
      .exact⟨hp,λ_=>hp3,λ_=>by show 0<l.next;omega⟩
      .exact h.ok y (Qz hy)
    .show 1<=l.next+1
     omega
    .rw[a1]
     show l.many+1=_
     omega
    .rw[a1]
     omega
  .exact h
theorem zdq{l:qo}(h:GL l)(x:qq):GL (oneF l x).2.2:=by
 unfold oneF
 split
 .exact zam h _ _
 .split
  .exact zcb h _
  .exact zcw h _ _
theorem qtl:∀(b:List qq)(k:Nat)(l:qo)(ids:List Int),GL l->GL (ke k b l ids).2.1
 | [],_,l,_,h=>h
 |x::r,k,l,ids,h=>by
  unfold ke
  split
  .exact qtl r _ _ _ (zdq h x)
  .exact h
theorem ze2{l:qo}(h:GL l)(b:List qq):GL (doF l b).2.1:=by
 unfold doF
 split
 .exact qtl b 0 l [] h
 .exact h
theorem qis{text:qd}(h:zn text=.no):(jq text).1=none∧text.length<=60000∧itsE text=(jq text).2:=by
 unfold zn at h
 unfold itsE
 split at h
 .simp at h
 .rename_i hl
  rw[if_neg hl]
  refine⟨?_,Om,rfl⟩
  cases hp:(jq text).1 with
  |none=>rfl
  |some x=>rw[hp]at h;simp at h
end Go.Pl
namespace Go.Pl
open Go Go.Proofs
def cntF(es:List EntV):Nat:=es.countP λe=>decide (0<e.id)
theorem qk9(es:List EntV)(e:EntV):cntF (es++[e])=cntF es+if 0<e.id then 1 else 0:=by
 unfold cntF
 rw[List.countP_append]
 by_cases h:0<e.id<;>simp[h]
theorem zb7(es:List EntV):cntF es<=es.length:=List.countP_le_length
end Go.Pl
namespace Go.Proofs.YtapblfabkbdgcaaGreatDoor
open Go Go.Av Go.RowKit Go.Proofs Go.Pl
theorem qo1{a b c d:AV}(h1:Pure a)(h2:Pure b)(h3:Pure c)(h4:Pure d):Pure (.tu [a,b,c,d]):=qdt λz hz=>by
 simp only[Qk,Qv,or_false]at hz
 rcases hz with rfl|rfl|rfl|rfl
 .exact h1
 .exact h2
 .exact h3
 .exact h4
@[reducible] def qdb (es : List EntV) : AV := .sl 4 (es.map entA) none
@[reducible] def jr (l : qo) : AV := .ag [qdb l.ents, Iv l.next]
theorem q3p(es:List EntV):Pure (qdb es):=y7 λx hx=>by
 obtain⟨f,_,rfl⟩:=Zr.1 hx
 exact qqf f
theorem x6(l:qo):Pure (jr l):=qbi λy hy=>by
 simp only[AV.cells,Qk,Qv,or_false]at hy
 rcases hy with rfl|rfl
 .exact q3p _
 .exact qt _
def ofR(text:qd):qo:=if zn text=.no then ofF (itsE text)else⟨[],0,0⟩
theorem q0v{text:qd}(h:zn text=.no):qak text=.tu [jm (itsE text),Iv (-9),Iv 0]:=by
 unfold qak itsE
 unfold zn at h
 split
 .rename_i hb
  rw[if_pos hb]at h
  simp at h
 .rename_i hb
  rw[if_neg hb]at h
  rcases hp:(jq text).1 with _|⟨a,n⟩
  .rfl
  .rw[hp]at h
   simp at h
theorem ql5(text:qd)(st:List AObj)(hl:text.length<1000000):ql E 29 [Sv text] st λr st'=>r=.tu [jr (ofR text),Iv (zn text).pos,Iv (zn text).code]∧st'=st:=by
 refine q5 [.s text] (yf (x6 _) (qt _) (qt _)) Tryz.func29 rfl rfl (λ_=>rfl) rfl λS0=>?_
 unfold ofR
 by_cases hno:zn text=.no
 .have hp:=λst=>ql6 text st hl
  rw[q0v hno]at hp
  have hil:=qoq text
  rw[hno,if_pos rfl]
  generalize itsE text=its at hp hil
  have hmi:(its.map jh).length=its.length:=Sx
  apply qe []
  repeat' (first|apply Qa|(intro h;try exact cDd)|exact⟨Tryz.call54⟩|refine cpe hp ?_|exact cSd|apply qc []|refine exr ?_|refine qf ?_)
  refine zl (X:=Nat×qo) (λ(k,l)=>⟨[(2,.bx 0 0),(5,.a (jm its)),(6,.i (-9)),(8,.bx 1 0),(9,.i k)],[(0,some (.cells 67 [.a z0,.i 0])),(1,some (.cells 67 [.tp 2,.i l.next])),(2,some (.tip 4 119 (l.ents.map entA)))],3⟩)
   (λ(k,l)=>k<=its.length∧l.ents.length=k∧(1<=l.next∧l.next<=k+1)∧(its.drop k).foldl vi l=ofF its) (λ(k,l)=>its.length-k) (0,⟨[],1,0⟩) ⟨Om,rfl,⟨by decide,by decide⟩,rfl⟩ ?_ ?_
  .skip
   repeat' (first|apply Qa|(intro h;try exact cDd)|exact cSd|apply qc []|refine exr ?_|refine qf ?_)
   all_goals (simp;done)
  .rintro⟨k,l⟩ ⟨hk,hlk,hnx,hrun⟩
   by_cases hkn:k<its.length
   .have hx:its[k]?=some its[k]:=Qc hkn
    have hxm:(its.map jh)[k]?=some (jh its[k]):=by rw[Qe,hx];rfl
    rw[Qf hkn,Zm]at hrun
    have hml:(l.ents.map entA).length=l.ents.length:=Sx
    generalize its[k]=x at hx hxm hrun
    by_cases hk3:x.kind=3
    .have e:vi l x=⟨l.ents++[⟨x,l.next⟩],l.next+1,l.many+1⟩:=if_pos hk3
     rw[e]at hrun
     apply qe []
     repeat' (first|apply Qa|(intro h;try exact cDd)|(refine Qb (k) ⟨Om,_,hxm,?_⟩)|(refine Qb (k+1,⟨l.ents++[⟨x,l.next⟩],l.next+1,l.many+1⟩) ⟨⟨Om,by simp[hlk],by simp only;omega,hrun⟩,by simp only;omega,?_⟩)|exact cSd|apply qc []|refine exr ?_|refine qf ?_)
     all_goals (simp;done)
    .have e:vi l x=⟨l.ents++[⟨x,0⟩],l.next,l.many⟩:=if_neg hk3
     rw[e]at hrun
     apply qe []
     repeat' (first|apply Qa|(intro h;try exact cDd)|(refine Qb (k) ⟨Om,_,hxm,?_⟩)|(refine Qb (k+1,⟨l.ents++[⟨x,0⟩],l.next,l.many⟩) ⟨⟨Om,by simp[hlk],by simp only;omega,hrun⟩,by simp only;omega,?_⟩)|exact cSd|apply qc []|refine exr ?_|refine qf ?_)
     all_goals (simp;done)
   .have hkn:k=its.length:=by omega
    subst hkn
    rw[Qu]at hrun
    have e:ofF its=l:=hrun.symm
    rw[e]
    apply qe []
    repeat' (first|apply Qa|(intro h;try exact cDd)|exact cSd|apply qc []|refine exr ?_|refine qf ?_)
 .obtain⟨its,p,n,hpa,hp,hn,hn0⟩:=q7o text hl
  have hz:n≠0:=λh=>hno (hn0.1 h)
  rw[if_neg hno,<-hp,<-hn]
  apply qe []
  repeat' (first|apply Qa|(intro h;try exact cDd)|exact⟨Tryz.call54⟩|refine cpe hpa ?_|exact cSd|apply qc []|refine exr ?_|refine qf ?_)
theorem qit(l:qo)(id:Int)(st:List AObj)(hl:l.ents.length<1000000):ql E 173 [jr l,Iv id] st λr st'=>r=Iv (atF l id)∧st'=st:=by
 refine q5 [.a (jr l),.i id] (qt _) Tryz.func173 rfl rfl (λ_=>rfl) rfl λS0=>?_
 unfold atF
 obtain⟨es,nx,mn⟩:=l
 dsimp only at hl⊢
 have hmi:(es.map entA).length=es.length:=Sx
 apply qe []
 repeat' (first|apply Qa|(intro h;try exact cDd)|exact cSd|apply qc []|refine exr ?_|refine qf ?_)
 refine zl (X:=Nat) (λk=>⟨[(1,.i id),(2,.a (.pp [qdb es,Iv nx])),(5,.i k)],[],0⟩) (λk=>k<=es.length∧(0<id->wv id k (es.drop k)=wv id 0 es)) (λk=>es.length-k) 0 ⟨Om,Sx⟩ ?_ ?_
 .skip
  repeat' (first|apply Qa|(intro h;try exact cDd)|exact cSd|apply qc []|refine exr ?_|refine qf ?_)
  all_goals (simp;done)
 .rintro k ⟨hk,hrun⟩
  by_cases h1:id<1
  .rw[if_pos h1]
   apply qe []
   repeat' (first|apply Qa|(intro h;try exact cDd)|exact cSd|apply qc []|refine exr ?_|refine qf ?_)
  .rw[if_neg h1]
   have hrun:=hrun Om
   by_cases hkn:k<es.length
   .have hx:es[k]?=some es[k]:=Qc hkn
    have hxm:(es.map entA)[k]?=some (entA es[k]):=by rw[Qe,hx];rfl
    rw[Qf hkn,wv]at hrun
    generalize es[k]=e at hx hxm hrun
    by_cases hid:e.id=id
    .rw[if_pos hid]at hrun
     rw[<-hrun]
     apply qe []
     repeat' (first|apply Qa|(intro h;try exact cDd)|(refine Qb (k) ⟨Om,_,hxm,?_⟩)|exact cSd|apply qc []|refine exr ?_|refine qf ?_)
    .rw[if_neg hid]at hrun
     apply qe []
     repeat' (first|apply Qa|(intro h;try exact cDd)|(refine Qb (k) ⟨Om,_,hxm,?_⟩)|(refine Qb (k+1) ⟨⟨Om,λ_=>hrun⟩,Om,?_⟩)|exact cSd|apply qc []|refine exr ?_|refine qf ?_)
   .have hkn:k=es.length:=by omega
    subst hkn
    rw[Qu,wv]at hrun
    rw[<-hrun]
    apply qe []
    repeat' (first|apply Qa|(intro h;try exact cDd)|exact cSd|apply qc []|refine exr ?_|refine qf ?_)
theorem q4k(l:qo)(st:List AObj)(hl:l.ents.length<1000000):ql E 175 [jr l] st λr st'=>r=Iv (cntF l.ents)∧st'=st:=by
 refine q5 [.a (jr l)] (qt _) Tryz.func175 rfl rfl (λ_=>rfl) rfl λS0=>?_
 obtain⟨es,nx,mn⟩:=l
 dsimp only at hl⊢
 have hmi:(es.map entA).length=es.length:=Sx
 apply qe []
 repeat' (first|apply Qa|(intro h;try exact cDd)|exact cSd|apply qc []|refine exr ?_|refine qf ?_)
 refine zl (X:=Nat) (λk=>⟨[(1,.a (.pp [qdb es,Iv nx])),(3,.i (cntF (es.take k):Nat)),(4,.i k)],[],0⟩) (λk=>k<=es.length) (λk=>es.length-k) 0 Om ?_ ?_
 .skip
  repeat' (first|apply Qa|(intro h;try exact cDd)|exact cSd|apply qc []|refine exr ?_|refine qf ?_)
  all_goals (simp[cntF];done)
 .rintro k hk
  by_cases hkn:k<es.length
  .have hx:es[k]?=some es[k]:=Qc hkn
   have hxm:(es.map entA)[k]?=some (entA es[k]):=by rw[Qe,hx];rfl
   have htk:es.take (k+1)=es.take k++[es[k]]:=by rw[Qq,hx];rfl
   have hct:=qk9 (es.take k) es[k]
   have hcl:=zb7 (es.take k)
   have hcl2:(es.take k).length<=k:=So
   rw[<-htk]at hct
   generalize es[k]=e at hx hxm hct
   by_cases h0:0<e.id
   .rw[if_pos h0]at hct
    apply qe []
    repeat' (first|apply Qa|(intro h;try exact cDd)|(refine Qb (k) ⟨Om,_,hxm,?_⟩)|(refine Qb (k+1) ⟨Om,Om,?_⟩)|exact cSd|apply qc []|refine exr ?_|refine qf ?_)
    all_goals (simp[hct];done)
   .rw[if_neg h0]at hct
    apply qe []
    repeat' (first|apply Qa|(intro h;try exact cDd)|(refine Qb (k) ⟨Om,_,hxm,?_⟩)|(refine Qb (k+1) ⟨Om,Om,?_⟩)|exact cSd|apply qc []|refine exr ?_|refine qf ?_)
    all_goals (simp[hct];done)
  .have hkn:k=es.length:=by omega
   subst hkn
   rw[Zj]
   apply qe []
   repeat' (first|apply Qa|(intro h;try exact cDd)|exact cSd|apply qc []|refine exr ?_|refine qf ?_)
theorem qnz(fs:List Fld)(st:List AObj)(h:qvf fs):ql E 174 [q6 fs] st λr st'=>r=jh ⟨3,zu fs,fs⟩∧st'=st:=by
 refine q5 [.a (q6 fs)] (qbi (qe0 _)) Tryz.func174 rfl rfl (λ_=>rfl) rfl λS0=>?_
 have h1:=λst=>q4i fs st h
 apply qe []
 repeat' (first|apply Qa|(intro h;try exact cDd)|exact⟨Tryz.call71⟩|refine cpe h1 ?_|exact cSd|apply qc []|refine exr ?_|refine qf ?_)
end Go.Proofs.YtapblfabkbdgcaaGreatDoor
namespace Go.Pl
open Go Go.Proofs Go.Av
def dlF(i:Nat)(es:List EntV)(k:Nat):List EntV:=(es.take k).take i++(es.take k).drop (i+1)
theorem ze1{i:Nat}{es:List EntV}{k:Nat}{e:EntV}(h:es[k]?=some e):dlF i es (k+1)=dlF i es k++if k=i then []else [e]:=by
 have hk:=lt_of_getElem? h
 have hl:(es.take k).length=k:=So
 unfold dlF
 rw[Qq,h]
 simp only[Zz]
 rw[Xc,Zs,hl]
 by_cases hki:k=i
 .subst hki
  rw[if_pos rfl]
  have e1:(es.take k).drop (k+1)=[]:=Qn Om
  simp[e1]
 .rw[if_neg hki]
  by_cases hlt:k<i
  .have e1:(es.take k).drop (i+1)=[]:=Qn Om
   obtain⟨d,hd⟩:∃d,i-k=d+1:=⟨i-k-1,Om⟩
   have hd2:i+1-k=d+1+1:=Om
   rw[e1,hd,hd2]
   simp
  .have hd:i-k=0:=by omega
   have hd2:i+1-k=0:=Om
   rw[hd,hd2]
   simp
def inF(j:Nat)(x:EntV)(es:List EntV)(k:Nat):List EntV:=(es.take k).take j++if j<=k then x::(es.take k).drop j else []
theorem zfe{j:Nat}{x:EntV}{es:List EntV}{k:Nat}{e:EntV}(h:es[k]?=some e):inF j x es (k+1)=inF j x es k++e::if j=k+1 then [x]else []:=by
 have hk:=lt_of_getElem? h
 have hl:(es.take k).length=k:=So
 unfold inF
 rw[Qq,h]
 simp only[Zz]
 rw[Xc,Zs,hl]
 by_cases hjk:j=k+1
 .subst hjk
  have e1:(es.take k).drop (k+1)=[]:=Qn Om
  have e2:k+1-k=1:=Om
  rw[if_pos (Zw _),if_pos rfl,if_neg Om,e1,e2]
  simp
 .rw[if_neg hjk]
  by_cases hlt:j<=k
  .have hd:j-k=0:=by omega
   rw[if_pos Om,if_pos hlt,hd]
   simp
  .obtain⟨d,hd⟩:∃d,j-k=d+1:=⟨j-k-1,Om⟩
   rw[if_neg Om,if_neg hlt,hd]
   simp
end Go.Pl
namespace Go.Proofs.YtapblfabkbdgcaaGreatDoor
open Go Go.Av Go.RowKit Go.Proofs Go.Pl
def rlR(l:qo)(e:ErrV):AV:=.tu [jr l,Iv e.pos,Iv e.code]
theorem zat(l:qo)(e:ErrV):Pure (rlR l e):=yf (x6 _) (qt _) (qt _)
theorem qp3(fs:List Fld)(h:zo fs≠.no):∃p n,(zo fs).pos=p∧(zo fs).code=n∧n≠0:=⟨_,_,rfl,rfl,λh'=>h ((qgu fs).1 h')⟩
theorem q0w(l:qo)(id:Int)(fs:List Fld)(st:List AObj)(hl:l.ents.length<1000000)(hK:KeyB fs)(hfl:fs.length<1000000):ql E 135 [jr l,Iv id,q6 fs] st λr st'=>r=rlR (vw l id fs).2 (vw l id fs).1∧st'=st:=by
 refine q5 [.a (jr l),.i id,.a (q6 fs)] (zat _ _) Tryz.func135 rfl rfl (λ_=>rfl) rfl λS0=>?_
 have h1:=λst=>qit l id st hl
 have hmi:(l.ents.map entA).length=l.ents.length:=Sx
 have h2:=λst=>qhe fs st hK Om
 unfold vw rlR
 rcases qd4 l id with h|⟨i,e,h,he,hid,hid1⟩
 .rw[h]at h1⊢
  rw[if_pos (by decide)]
  apply qe []
  repeat' (first|apply Qa|(intro h;try exact cDd)|exact⟨Tryz.call173⟩|refine cpe h1 ?_|exact cSd|apply qc []|refine exr ?_|refine qf ?_)
 .rw[h]at h1⊢
  rw[if_neg Om]
  have hil:=lt_of_getElem? he
  by_cases hc:zo fs=.no
  .rw[hc]at h2
   obtain⟨_,g3,g4⟩:=qa4 hc
   have h3:=λst=>qnz fs st (qqp g3 g4)
   rw[if_pos hc]
   unfold qe4 wd
   rw[if_pos hc,Qm,he]
   simp only
   have hx':∀k e',l.ents[k]?=some e'->(l.ents.set i ⟨⟨3,zu fs,fs⟩,e.id⟩).take (k+1)=(l.ents.set i ⟨⟨3,zu fs,fs⟩,e.id⟩).take k++[if k=i then⟨⟨3,zu fs,fs⟩,e.id⟩else e']:=λk e' h=>by
    have hk:=lt_of_getElem? h
    rw[Qq]
    congr 1
    by_cases hki:k=i
    .subst hki
     rw[if_pos rfl,List.getElem?_set_self hk]
     try rfl
    .rw[if_neg hki,Ql (λh=>hki h.symm),h]
     rfl
   have hsl:(l.ents.set i ⟨⟨3,zu fs,fs⟩,e.id⟩).length=l.ents.length:=Sx
   generalize l.ents.set i ⟨⟨3,zu fs,fs⟩,e.id⟩=es' at hx' hsl
   apply qe []
   repeat' (first|apply Qa|(intro h;try exact cDd)|exact⟨Tryz.call173⟩|refine cpe h1 ?_|exact⟨Tryz.call106⟩|refine cpe h2 ?_|exact cSd|apply qc []|refine exr ?_|refine qf ?_)
   refine zl (X:=Nat) (λk=>⟨[(2,.a (q6 fs)),(3,.a (.pp [qdb l.ents,Iv l.next])),(6,.bx 0 0),(9,.i i),(12,.bx 1 0),(13,.i k)],[(0,some (.cells 67 [.a z0,.i 0])),(1,some (.cells 67 [.tp 2,.i l.next])),(2,some (.tip 4 119 ((es'.take k).map entA)))],3⟩)
    (λk=>k<=l.ents.length) (λk=>l.ents.length-k) 0 Om ?_ ?_
   .skip
    repeat' (first|apply Qa|(intro h;try exact cDd)|exact cSd|apply qc []|refine exr ?_|refine qf ?_)
    all_goals first|rfl|(simp;done)
   .rintro k hk
    by_cases hkn:k<l.ents.length
    .have hx:l.ents[k]?=some l.ents[k]:=Qc hkn
     have hxm:(l.ents.map entA)[k]?=some (entA l.ents[k]):=by rw[Qe,hx];rfl
     have htk:=hx' k _ hx
     have htl:((es'.take k).map entA).length<=k:=So
     by_cases hki:k=i
     .have hee:l.ents[k]=e:=by
       have h1:=he
       rw[<-hki,hx]at h1
       simpa using h1
      rw[hee]at hx hxm
      rw[if_pos hki]at htk
      apply qe []
      repeat' (first|apply Qa|(intro h;try exact cDd)|(refine Qb (k) ⟨Om,_,hxm,?_⟩)|exact⟨Tryz.call174⟩|refine cpe h3 ?_|(refine Qb (k+1) ⟨Om,Om,?_⟩)|exact absurd hki Om|exact cSd|apply qc []|refine exr ?_|refine qf ?_)
      all_goals first|(rw[htk];simp;done)|omega|(simp;omega)
     .rw[if_neg hki]at htk
      generalize l.ents[k]=e' at hx hxm htk
      apply qe []
      repeat' (first|apply Qa|(intro h;try exact cDd)|(refine Qb (k) ⟨Om,_,hxm,?_⟩)|(refine Qb (k+1) ⟨Om,Om,?_⟩)|exact absurd Om hki|exact cSd|apply qc []|refine exr ?_|refine qf ?_)
      all_goals first|(rw[htk];simp;done)|omega|(simp;omega)
    .have hkn:k=l.ents.length:=by omega
     subst hkn
     rw[Ze Om]
     apply qe []
     repeat' (first|apply Qa|(intro h;try exact cDd)|exact cSd|apply qc []|refine exr ?_|refine qf ?_)
  .obtain⟨p,n,hp,hn,hn0⟩:=qp3 fs hc
   rw[hp,hn]at h2
   rw[if_neg hc,hp,hn]
   apply qe []
   repeat' (first|apply Qa|(intro h;try exact cDd)|exact⟨Tryz.call173⟩|refine cpe h1 ?_|exact⟨Tryz.call106⟩|refine cpe h2 ?_|exact cSd|apply qc []|refine exr ?_|refine qf ?_)
theorem q4h(l:qo)(id:Int)(st:List AObj)(hl:l.ents.length<1000000):ql E 136 [jr l,Iv id] st λr st'=>r=.tu [jr (delF l id).2,Iv (delF l id).1.code]∧st'=st:=by
 refine q5 [.a (jr l),.i id] (xw (x6 _) (qt _)) Tryz.func136 rfl rfl (λ_=>rfl) rfl λS0=>?_
 have h1:=λst=>qit l id st hl
 have hmi:(l.ents.map entA).length=l.ents.length:=Sx
 unfold delF
 rcases qd4 l id with h|⟨i,e,h,he,hid,hid1⟩
 .rw[h]at h1⊢
  rw[if_pos (by decide)]
  apply qe []
  repeat' (first|apply Qa|(intro h;try exact cDd)|exact⟨Tryz.call173⟩|refine cpe h1 ?_|exact cSd|apply qc []|refine exr ?_|refine qf ?_)
 .rw[h]at h1⊢
  rw[if_neg Om,Qm]
  unfold delL
  simp only
  have hend:dlF i l.ents l.ents.length=l.ents.take i++l.ents.drop (i+1):=by unfold dlF;rw[Zj]
  have hll:∀k,k<=l.ents.length->((dlF i l.ents k).map entA).length<=k:=λk hk=>by
   simp[dlF]
   omega
  rw[<-hend]
  apply qe []
  repeat' (first|apply Qa|(intro h;try exact cDd)|exact⟨Tryz.call173⟩|refine cpe h1 ?_|exact cSd|apply qc []|refine exr ?_|refine qf ?_)
  refine zl (X:=Nat) (λk=>⟨[(2,.a (.pp [qdb l.ents,Iv l.next])),(4,.bx 0 0),(6,.i i),(7,.bx 1 0),(8,.i k)],[(0,some (.cells 67 [.a z0,.i 0])),(1,some (.cells 67 [.tp 2,.i l.next])),(2,some (.tip 4 119 ((dlF i l.ents k).map entA)))],3⟩)
   (λk=>k<=l.ents.length) (λk=>l.ents.length-k) 0 Om ?_ ?_
  .skip
   repeat' (first|apply Qa|(intro h;try exact cDd)|exact cSd|apply qc []|refine exr ?_|refine qf ?_)
   all_goals first|rfl|(simp[dlF];done)|(simp[dlF];rfl)
  .rintro k hk
   by_cases hkn:k<l.ents.length
   .have hx:l.ents[k]?=some l.ents[k]:=Qc hkn
    have hxm:(l.ents.map entA)[k]?=some (entA l.ents[k]):=by rw[Qe,hx];rfl
    have htk:=ze1 (i:=i) hx
    have htl:=hll k hk
    rw[Qj]at htl
    generalize l.ents[k]=e' at hx hxm htk
    by_cases hki:k=i
    .rw[if_pos hki,Qp]at htk
     apply qe []
     repeat' (first|apply Qa|(intro h;try exact cDd)|(refine Qb (k+1) ⟨Om,Om,?_⟩)|exact absurd hki Om|exact cSd|apply qc []|refine exr ?_|refine qf ?_)
     all_goals first|(rw[htk];done)|omega|(simp;omega)
    .rw[if_neg hki]at htk
     apply qe []
     repeat' (first|apply Qa|(intro h;try exact cDd)|(refine Qb (k) ⟨Om,_,hxm,?_⟩)|(refine Qb (k+1) ⟨Om,Om,?_⟩)|exact absurd Om hki|exact cSd|apply qc []|refine exr ?_|refine qf ?_)
     all_goals first|(rw[htk];simp;done)|omega|(simp;omega)
   .have hkn:k=l.ents.length:=by omega
    subst hkn
    apply qe []
    repeat' (first|apply Qa|(intro h;try exact cDd)|exact cSd|apply qc []|refine exr ?_|refine qf ?_)
def rlR4(l:qo)(n:Int)(e:ErrV):AV:=.tu [jr l,Iv n,Iv e.pos,Iv e.code]
theorem q7r(l:qo)(n:Int)(e:ErrV):Pure (rlR4 l n e):=qo1 (x6 _) (qt _) (qt _) (qt _)
set_option maxHeartbeats 4000000 in
theorem q4j(l:qo)(id:Int)(fs:List Fld)(st:List AObj)(hl:l.ents.length<1000000)(hn:1<=l.next∧l.next<1000000)(hM:l.many=cntF l.ents)(hK:KeyB fs)(hfl:fs.length<1000000):ql E 137 [jr l,Iv id,q6 fs] st λr st'=>r=rlR4 (insF l id fs).2.2 (insF l id fs).1 (insF l id fs).2.1∧st'=st:=by
 refine q5 [.a (jr l),.i id,.a (q6 fs)] (q7r _ _ _) Tryz.func137 rfl rfl (λ_=>rfl) rfl λS0=>?_
 have h1:=λst=>qit l id st hl
 have hmi:(l.ents.map entA).length=l.ents.length:=Sx
 have h2:=λst=>qhe fs st hK Om
 have h3:=λst=>q4k l st hl
 unfold insF rlR4
 rw[hM]
 rcases Decidable.em (atF l id<0∧id≠0)with hb|hb
 .rw[if_pos hb]
  obtain⟨hb1,hb2⟩:=hb
  generalize atF l id=a at hb1 h1
  apply qe []
  repeat' (first|apply Qa|(intro h;try exact cDd)|exact⟨Tryz.call173⟩|refine cpe h1 ?_|exact cSd|apply qc []|refine exr ?_|refine qf ?_)
 .rw[if_neg hb]
  obtain⟨a,j,ha,hj,hjl,hor⟩:∃(a:Int)(j:Nat),atF l id=a∧a+1=(j:Int)∧j<=l.ents.length∧(0<=a∨a= -1∧id=0):=by
   rcases qd4 l id with h|⟨i,e,h,he,_⟩
   .exact⟨-1,0,h,rfl,Om,.inr ⟨rfl,Decidable.not_not.1 λh0=>hb ⟨Om,h0⟩⟩⟩
   .have:=lt_of_getElem? he
    exact⟨i,i+1,h,rfl,Om,.inl Om⟩
  rw[ha]at h1 hb⊢
  rw[hj,Qm]
  by_cases hc:zo fs=.no
  .rw[hc]at h2
   rw[if_pos hc]
   by_cases hm:400<=(cntF l.ents:Int)
   .rw[if_pos hm]
    generalize cntF l.ents=m at h3 hm
    rcases hor with hor|⟨hor,hor2⟩
    .apply qe []
     repeat' (first|apply Qa|(intro h;try exact cDd)|exact⟨Tryz.call173⟩|refine cpe h1 ?_|exact⟨Tryz.call106⟩|refine cpe h2 ?_|exact⟨Tryz.call175⟩|refine cpe h3 ?_|exact cSd|apply qc []|refine exr ?_|refine qf ?_)
    .apply qe []
     repeat' (first|apply Qa|(intro h;try exact cDd)|exact⟨Tryz.call173⟩|refine cpe h1 ?_|exact⟨Tryz.call106⟩|refine cpe h2 ?_|exact⟨Tryz.call175⟩|refine cpe h3 ?_|exact cSd|apply qc []|refine exr ?_|refine qf ?_)
   .rw[if_neg hm]
    generalize cntF l.ents=m at h3 hm
    obtain⟨_,g3,g4⟩:=qa4 hc
    have h4:=λst=>qnz fs st (qqp g3 g4)
    unfold insL wd
    rw[if_pos hc]
    simp only
    have hend:inF j ⟨⟨3,zu fs,fs⟩,l.next⟩ l.ents l.ents.length=l.ents.take j++⟨⟨3,zu fs,fs⟩,l.next⟩::l.ents.drop j:=by
     unfold inF
     rw[Zj,if_pos hjl]
    have hll:∀k,k<=l.ents.length->((inF j ⟨⟨3,zu fs,fs⟩,l.next⟩ l.ents k).map entA).length<=k+1:=λk hk=>by
     unfold inF
     split
     .simp
      omega
     .simp
      omega
    rw[<-hend]
    have h0:0<=a->inF j ⟨⟨3,zu fs,fs⟩,l.next⟩ l.ents 0=[]:=λh=>by
     unfold inF
     rw[if_neg Om]
     simp
    have h00:a= -1->inF j ⟨⟨3,zu fs,fs⟩,l.next⟩ l.ents 0=[⟨⟨3,zu fs,fs⟩,l.next⟩]:=λh=>by
     unfold inF
     rw[if_pos Om]
     simp
    have hst:=λk e'=>zfe (j:=j) (x:=⟨⟨3,zu fs,fs⟩,l.next⟩) (es:=l.ents) (k:=k) (e:=e')
    generalize inF j ⟨⟨3,zu fs,fs⟩,l.next⟩ l.ents=iF at hll h0 h00 hst
    rcases hor with hor|⟨hor,hor2⟩
    .have h0:=h0 hor
     clear h00
     apply qe []
     repeat' (first|apply Qa|(intro h;try exact cDd)|exact⟨Tryz.call173⟩|refine cpe h1 ?_|exact⟨Tryz.call106⟩|refine cpe h2 ?_|exact⟨Tryz.call175⟩|refine cpe h3 ?_|exact⟨Tryz.call174⟩|refine cpe h4 ?_|exact cSd|apply qc []|refine exr ?_|refine qf ?_)
     refine zl (X:=Nat) (λk=>⟨[(3,.a (.pp [qdb l.ents,Iv l.next])),(6,.bx 0 0),(10,.i a),(13,.bx 1 0),(14,.bx 2 0),(15,.i k)],[(0,some (.cells 67 [.a z0,.i 0])),(1,some (.cells 67 [.tp 3,.i (l.next+1)])),(2,some (.cells 119 [.i 3,.s (zu fs),.a (q6 fs),.i l.next])),(3,some (.tip 4 119 ((iF k).map entA)))],4⟩)
      (λk=>k<=l.ents.length) (λk=>l.ents.length-k) 0 Om ?_ ?_
     .skip
      repeat' (first|apply Qa|(intro h;try exact cDd)|exact cSd|apply qc []|refine exr ?_|refine qf ?_)
      all_goals first|rfl|(simp[h0];done)|(simp[h0];rfl)
     .rintro k hk
      by_cases hkn:k<l.ents.length
      .have hx:l.ents[k]?=some l.ents[k]:=Qc hkn
       have hxm:(l.ents.map entA)[k]?=some (entA l.ents[k]):=by rw[Qe,hx];rfl
       have htk:=hst k _ hx
       have htl:=hll k hk
       rw[Qj]at htl
       generalize l.ents[k]=e' at hx hxm htk
       by_cases hki:j=k+1
       .rw[if_pos hki]at htk
        apply qe []
        repeat' (first|apply Qa|(intro h;try exact cDd)|(refine Qb (k) ⟨Om,_,hxm,?_⟩)|(refine Qb (k+1) ⟨Om,Om,?_⟩)|exact absurd hki Om|exact cSd|apply qc []|refine exr ?_|refine qf ?_)
        all_goals first|(rw[htk];simp;done)|omega|(simp;omega)
       .rw[if_neg hki]at htk
        apply qe []
        repeat' (first|apply Qa|(intro h;try exact cDd)|(refine Qb (k) ⟨Om,_,hxm,?_⟩)|(refine Qb (k+1) ⟨Om,Om,?_⟩)|exact absurd Om hki|exact cSd|apply qc []|refine exr ?_|refine qf ?_)
        all_goals first|(rw[htk];simp;done)|omega|(simp;omega)
      .have hkn:k=l.ents.length:=by omega
       subst hkn
       apply qe []
       repeat' (first|apply Qa|(intro h;try exact cDd)|exact cSd|apply qc []|refine exr ?_|refine qf ?_)
    .have hz:=h00 hor
     clear h00 h0
     subst hor
     apply qe []
     repeat' (first|apply Qa|(intro h;try exact cDd)|exact⟨Tryz.call173⟩|refine cpe h1 ?_|exact⟨Tryz.call106⟩|refine cpe h2 ?_|exact⟨Tryz.call175⟩|refine cpe h3 ?_|exact⟨Tryz.call174⟩|refine cpe h4 ?_|exact cSd|apply qc []|refine exr ?_|refine qf ?_)
     refine zl (X:=Nat) (λk=>⟨[(3,.a (.pp [qdb l.ents,Iv l.next])),(6,.bx 0 0),(10,.i (-1)),(13,.bx 1 0),(14,.bx 2 0),(15,.i k)],[(0,some (.cells 67 [.a z0,.i 0])),(1,some (.cells 67 [.tp 3,.i (l.next+1)])),(2,some (.cells 119 [.i 3,.s (zu fs),.a (q6 fs),.i l.next])),(3,some (.tip 4 119 ((iF k).map entA)))],4⟩)
      (λk=>k<=l.ents.length) (λk=>l.ents.length-k) 0 Om ?_ ?_
     .skip
      repeat' (first|apply Qa|(intro h;try exact cDd)|exact cSd|apply qc []|refine exr ?_|refine qf ?_)
      all_goals first|rfl|(simp[hz];done)|(simp[hz];rfl)
     .rintro k hk
      by_cases hkn:k<l.ents.length
      .have hx:l.ents[k]?=some l.ents[k]:=Qc hkn
       have hxm:(l.ents.map entA)[k]?=some (entA l.ents[k]):=by rw[Qe,hx];rfl
       have htk:=hst k _ hx
       have htl:=hll k hk
       rw[Qj]at htl
       generalize l.ents[k]=e' at hx hxm htk
       rw[if_neg Om]at htk
       apply qe []
       repeat' (first|apply Qa|(intro h;try exact cDd)|(refine Qb (k) ⟨Om,_,hxm,?_⟩)|(refine Qb (k+1) ⟨Om,Om,?_⟩)|exact cSd|apply qc []|refine exr ?_|refine qf ?_)
       all_goals first|(rw[htk];simp;done)|omega|(simp;omega)
      .have hkn:k=l.ents.length:=by omega
       subst hkn
       apply qe []
       repeat' (first|apply Qa|(intro h;try exact cDd)|exact cSd|apply qc []|refine exr ?_|refine qf ?_)
  .obtain⟨p,n,hp,hn,hn0⟩:=qp3 fs hc
   rw[hp,hn]at h2
   rw[if_neg hc,hp,hn]
   rcases hor with hor|⟨hor,hor2⟩
   .apply qe []
    repeat' (first|apply Qa|(intro h;try exact cDd)|exact⟨Tryz.call173⟩|refine cpe h1 ?_|exact⟨Tryz.call106⟩|refine cpe h2 ?_|exact cSd|apply qc []|refine exr ?_|refine qf ?_)
   .apply qe []
    repeat' (first|apply Qa|(intro h;try exact cDd)|exact⟨Tryz.call173⟩|refine cpe h1 ?_|exact⟨Tryz.call106⟩|refine cpe h2 ?_|exact cSd|apply qc []|refine exr ?_|refine qf ?_)
end Go.Proofs.YtapblfabkbdgcaaGreatDoor
namespace Go.Pl
open Go Go.Proofs Go.Av
def LM(l:qo):Prop:=l.many=cntF l.ents
theorem qej(a b:List EntV):cntF (a++b)=cntF a+cntF b:=by simp[cntF]
theorem qhs(e:EntV)(b:List EntV):cntF (e::b)=(if 0<e.id then 1 else 0)+cntF b:=by
 by_cases h:0<e.id<;>simp[cntF,h]<;>omega
theorem q55{l:List EntV}{i:Nat}{e:EntV}(h:l[i]?=some e):l=l.take i++e::l.drop (i+1):=by
 obtain⟨hi,rfl⟩:=Zc.1 h
 rw[<-Qf hi,Qg]
theorem zaq{l:qo}(h:LM l)(id:Int)(fs:List Fld):LM (vw l id fs).2:=by
 unfold vw
 split
 .exact h
 .split
  .unfold qe4
   split
   .rename_i e he
    unfold LM at h⊢
    simp only
    rw[h]
    have h1:=q55 he
    have hi:=lt_of_getElem? he
    rw[List.set_eq_take_append_cons_drop,if_pos hi]
    conv=>lhs;rw[h1]
    rw[qej,qej,qhs,qhs]
   .exact h
  .exact h
theorem zcf{l:qo}(h:LM l)(id:Int):LM (delF l id).2:=by
 unfold delF
 split
 .exact h
 .rename_i hn
  rcases qd4 l id with g|⟨i,e,g,he,hid,hid1⟩
  .exact absurd (by rw[g];decide) hn
  .rw[g,Qm]
   unfold LM delL at *
   simp only
   rw[h]
   have h1:=q55 he
   conv=>lhs;rw[h1]
   rw[qej,qej,qhs,if_pos Om]
   omega
theorem zc0{l:qo}(h:LM l)(hn:1<=l.next)(id:Int)(fs:List Fld):LM (insF l id fs).2.2:=by
 unfold insF
 split
 .exact h
 .split
  .split
   .exact h
   .unfold LM insL at *
    simp only
    rw[h,qej,qhs,if_pos (by simp only;omega)]
    conv=>lhs;rw[<-Qg (atF l id+1).toNat l.ents]
    rw[qej]
    omega
  .exact h
theorem qx5:∀(its:List qx)(l:qo),LM l->1<=l.next->LM (its.foldl vi l)∧1<=(its.foldl vi l).next
 | [],l,h,hn=>⟨h,hn⟩
 |x::r,l,h,hn=>by
  rw[Zm]
  unfold vi
  split
  .refine qx5 r _ ?_ (by simp only;omega)
   unfold LM at *
   simp only
   rw[qk9,if_pos (by simp only;omega),h]
   omega
  .refine qx5 r _ ?_ hn
   unfold LM at *
   simp only
   rw[qk9,if_neg Sx,h]
   omega
theorem qx3(its:List qx):LM (ofF its):=(qx5 its ⟨[],1,0⟩ (by simp[LM,cntF]) (by decide)).1
end Go.Pl
namespace Go.Proofs.YtapblfabkbdgcaaGreatDoor
open Go Go.Av Go.RowKit Go.Proofs Go.Pl
theorem q13{l:qo}(h:LM l)(hn:1<=l.next)(x:qq):LM (oneF l x).2.2:=by
 unfold oneF
 split
 .exact zaq h _ _
 .split
  .exact zcf h _
  .exact zc0 h hn _ _
theorem qto:∀(b:List qq)(k n:Nat)(l:qo)(ids:List Int),LM l->LB n l->n+b.length<900000->LM (ke k b l ids).2.1
 | [],k,n,l,ids,h,_,_=>h
 |x::r,k,n,l,ids,h,hB,hs=>by
  simp only[Qi]at hs
  unfold ke
  split
  .exact qto r (k+1) (n+1) _ _ (q13 h hB.nx0 x) (qmt hB Om x) Om
  .exact h
theorem ze5{n:Nat}{l:qo}(h:LM l)(hB:LB n l)(hs:n+40<900000)(b:List qq):LM (doF l b).2.1:=by
 unfold doF
 split
 .rename_i he
  obtain⟨h1,h2,_⟩:=qge he
  exact qto b 0 n l [] h hB Om
 .exact h
theorem q4l(n:Nat)(l:qo)(x:qq)(st:List AObj)(hB:LB n l)(hM:LM l)(hK:KeyB x.fields)(hl:x.fields.length<1000000):ql E 95 [jr l,j6 x] st λr st'=>r=.tu [jr (oneF l x).2.2,Iv (oneF l x).1,Iv (oneF l x).2.1.code]∧st'=st:=by
 refine q5 [.a (jr l),.a (j6 x)] (yf (x6 _) (qt _) (qt _)) Tryz.func95 rfl rfl (λ_=>rfl) rfl λS0=>?_
 have g1:=hB.len;have g2:=hB.nx0;have g3:=hB.nx1;have g4:=hB.small
 unfold oneF
 by_cases h1:x.kind=1
 .rw[if_pos h1]
  have hc:=λst=>q0w l x.id x.fields st Om hK hl
  unfold rlR at hc
  generalize vw l x.id x.fields=r at hc
  apply qe []
  repeat' (first|apply Qa|(intro h;try exact cDd)|exact⟨Tryz.call135⟩|refine cpe hc ?_|exact cSd|apply qc []|refine exr ?_|refine qf ?_)
 .rw[if_neg h1]
  by_cases h2:x.kind=2
  .rw[if_pos h2]
   have hc:=λst=>q4h l x.id st Om
   generalize delF l x.id=r at hc
   apply qe []
   repeat' (first|apply Qa|(intro h;try exact cDd)|exact⟨Tryz.call136⟩|refine cpe hc ?_|exact cSd|apply qc []|refine exr ?_|refine qf ?_)
  .rw[if_neg h2]
   have hc:=λst=>q4j l x.id x.fields st Om ⟨Om,Om⟩ hM hK hl
   unfold rlR4 at hc
   generalize insF l x.id x.fields=r at hc
   apply qe []
   repeat' (first|apply Qa|(intro h;try exact cDd)|exact⟨Tryz.call137⟩|refine cpe hc ?_|exact cSd|apply qc []|refine exr ?_|refine qf ?_)
def doR(l:qo)(r:ErrV×qo×List Int):AV:=if r.1=.no then .tu [jr r.2.1,qas r.2.2,Iv (-9),Iv 0]else .tu [jr l,qas [],Iv r.1.pos,Iv r.1.code]
theorem q88(l:qo)(r:ErrV×qo×List Int):Pure (doR l r):=by
 unfold doR
 split
 .exact qo1 (x6 _) (yj _) (qt _) (qt _)
 .exact qo1 (x6 _) (yj _) (qt _) (qt _)
theorem q7n(n:Nat)(l:qo)(b:List qq)(st:List AObj)(hB:LB n l)(hM:LM l)(hn:n+40<900000)(hE:∀x∈b,EdB x)(hl:b.length<1000000):ql E 55 [jr l,ji b] st λr st'=>r=doR l (doF l b)∧st'=st:=by
 refine q5 [.a (jr l),.a (ji b)] (q88 _ _) Tryz.func55 rfl rfl (λ_=>rfl) rfl λS0=>?_
 have hck:=λst=>qyl b st hE Om
 have hmi:(b.map j6).length=b.length:=Sx
 unfold doF
 by_cases he:eErr b=.no
 .rw[he]at hck
  rw[if_pos he]
  obtain⟨hb1,hb40,hg⟩:=qge he
  apply qe []
  repeat' (first|apply Qa|(intro h;try exact cDd)|exact⟨Tryz.call37⟩|refine cpe hck ?_|exact cSd|apply qc []|refine exr ?_|refine qf ?_)
  refine zl (X:=Nat×qo×List Int) (λ(k,q,ids)=>⟨[(1,.a (ji b)),(2,.a (.pp [qdb l.ents,Iv l.next])),(4,.bx 0 0),(10,.bx 1 0),(11,.tp 2),(12,.i k)],[(0,some (.cells 67 [.a z0,.i 0])),(1,some (.cells 67 [.a (qdb q.ents),.i q.next])),(2,some (.tip 1 3 (ids.map λx=>Iv x)))],3⟩)
   (λ(k,q,ids)=>k<=b.length∧LB (n+k) q∧LM q∧ids.length<=k∧ke k (b.drop k) q ids=ke 0 b l []) (λ(k,q,ids)=>b.length-k) (0,l,[]) ⟨Om,hB,hM,Sx,rfl⟩ ?_ ?_
  .skip
   repeat' (first|apply Qa|(intro h;try exact cDd)|exact cSd|apply qc []|refine exr ?_|refine qf ?_)
   all_goals first|rfl|(simp;done)
  .rintro⟨k,q,ids⟩ ⟨hk,hq,hqm,hil,hrun⟩
   by_cases hkn:k<b.length
   .have hx:b[k]?=some b[k]:=Qc hkn
    have hxm:(b.map j6)[k]?=some (j6 b[k]):=by rw[Qe,hx];rfl
    have hxE:=hE b[k] (Qx hkn)
    have hxf:=(qgh (hg b[k] (Qx hkn))).1
    rw[Qf hkn,ke]at hrun
    have hidl:(ids.map λx=>Iv x).length=ids.length:=Sx
    generalize b[k]=x at hx hxm hxE hxf hrun
    have hon:=λst=>q4l (n+k) q x st hq hqm hxE.keys Om
    have hlb:=qmt hq Om x
    have hlm:=q13 hqm hq.nx0 x
    have hcd:=λh=>qlz (l:=q) (x:=x) h
    generalize oneF q x=o at hon hlb hlm hcd hrun
    obtain⟨id,e,q'⟩:=o
    dsimp only at hon hlb hlm hcd hrun
    by_cases hen:e=.no
    .subst hen
     rw[if_pos rfl]at hrun
     by_cases h0:0<id
     .rw[if_pos h0]at hrun
      apply qe []
      repeat' (first|apply Qa|(intro h;try exact cDd)|(refine Qb (k) ⟨Om,_,hxm,?_⟩)|exact⟨Tryz.call95⟩|refine cpe hon ?_|(refine Qb (k+1,q',ids++[id]) ⟨⟨Om,hlb,hlm,So,hrun⟩,by simp only;omega,?_⟩)|exact cSd|apply qc []|refine exr ?_|refine qf ?_)
      all_goals first|(simp;done)|(simp;omega)
     .rw[if_neg h0]at hrun
      apply qe []
      repeat' (first|apply Qa|(intro h;try exact cDd)|(refine Qb (k) ⟨Om,_,hxm,?_⟩)|exact⟨Tryz.call95⟩|refine cpe hon ?_|(refine Qb (k+1,q',ids) ⟨⟨Om,hlb,hlm,by first|omega|(simp only;omega),hrun⟩,by simp only;omega,?_⟩)|exact cSd|apply qc []|refine exr ?_|refine qf ?_)
      all_goals first|(simp;done)|(simp;omega)
    .rw[if_neg hen]at hrun
     rw[<-hrun]
     have hcd:=hcd hen
     have hA:doR l (ErrV.at' (↑k) e.code,q,ids)=.tu [jr l,qas [],Iv k,Iv e.code]:=by
      unfold doR
      rw[if_neg Sx]
      try rfl
     rw[hA]
     generalize ErrV.code e=c at hon hcd
     apply qe []
     repeat' (first|apply Qa|(intro h;try exact cDd)|(refine Qb (k) ⟨Om,_,hxm,?_⟩)|exact⟨Tryz.call95⟩|refine cpe hon ?_|exact cSd|apply qc []|refine exr ?_|refine qf ?_)
   .have hkn:k=b.length:=by omega
    subst hkn
    rw[Qu,ke]at hrun
    rw[<-hrun]
    unfold doR
    rw[if_pos rfl]
    apply qe []
    repeat' (first|apply Qa|(intro h;try exact cDd)|exact cSd|apply qc []|refine exr ?_|refine qf ?_)
 .obtain⟨p,m,hp,hm,h0⟩:=zcj b
  have hz:m≠0:=λh=>he (h0.1 h)
  rw[if_neg he]
  unfold doR
  simp only
  rw[if_neg he]
  rw[hp,hm]at hck⊢
  apply qe []
  repeat' (first|apply Qa|(intro h;try exact cDd)|exact⟨Tryz.call37⟩|refine cpe hck ?_|exact cSd|apply qc []|refine exr ?_|refine qf ?_)
end Go.Proofs.YtapblfabkbdgcaaGreatDoor
namespace Go.Pl
open Go Go.Proofs Go.Proofs.YtapblfabkbdgcaaGreatDoor
theorem qrg(x:qx)(r:List qx):zw (x::r)=x.raw++zw r:=by simp[zw]
theorem zah{its:List qx}{x:qx}(h:x∈its):x.raw.length<=(zw its).length:=by
 induction its with
 |nil=>simp at h
 |cons y r ih=>
  rw[qrg,Qd]
  rcases Qk.1 h with rfl|h
  .omega
  .have:=ih h
   omega
structure PR (m:Nat) (p:PSt):Prop where
 tot:(zw p.items).length+(zb p.block).length<=m
 fl:∀x∈p.items,x.fields.length<900000
theorem qlg{m:Nat}{p:PSt}(h:PR m p):PR m (jg p).2:=by
 unfold jg
 split
 .exact h
 .split
  .exact h
  .split
   .exact h
   .exact⟨h.tot,h.fl⟩
theorem q51{m:Nat}{p:PSt}(h:PR m p)(hf:p.fields.length<900000):PR m (w9 p):=by
 have ht:=h.tot
 unfold w9
 split
 .exact⟨by simp only[zb,Zk,Qr];omega,h.fl⟩
 .refine⟨?_,λx hx=>?_⟩
  .simp only[qai,qa1,Qd]
   simp only[zb,Zk,Qr]at ht⊢
   omega
  .simp only[Qh,Zd]at hx
   rcases hx with hx|rfl
   .exact h.fl x hx
   .exact hf
theorem qsh{m n:Nat}{p:PSt}(h:PR m p)(hB:PB n p)(hs:n+1<900000):PR m (endP p).2:=by
 unfold endP
 split
 .exact h
 .have:=(qfd hB hs).fields
  exact q51 (qlg h) Om
theorem q5c{m n:Nat}{p:PSt}{no:Int}{text:qd}{ended:Bool}{kind:Int}(h:PR m p)(hB:PB n p)(hs:n+1<900000):PR m (jd p no text ended kind).2:=by
 unfold jd
 split
 .split
  .exact h
  .split
   .exact⟨h.tot,h.fl⟩
   .exact qlg ⟨h.tot,h.fl⟩
 .split
  .exact qsh h hB hs
  .exact qlg h
theorem xo(a b:List qd):zb (a++b)=zb a++zb b:=by simp[zb]
theorem za4{m n:Nat}{p:PSt}{no:Int}{text:qd}{ended:Bool}(h:PR m p)(hB:PB n p)(hs:n+1<900000):PR (m+text.length+1) (vu p no text ended).2:=by
 have more:∀{q:PSt},PR m q->PR (m+text.length+1) q:=λh=>⟨by have:=h.tot;omega,h.fl⟩
 have h2:PR m (jd p no text ended (qn text)).2:=q5c h hB hs
 have ht:=h2.tot
 unfold vu
 split
 .exact more h
 .split
  .exact more h
  .split
   .refine⟨?_,λx hx=>?_⟩
    .simp only[qai,qa1,Qd,Qi,Qr]
     omega
    .simp only[Qh,Zd]at hx
     rcases hx with hx|rfl
     .exact h2.fl x hx
     .simp
   .split
    .refine⟨?_,h2.fl⟩
     simp only[jz,xo,Qd]
     simp only[zb,Xa,Zk,Qd,Qi,Qr]at ht⊢
     omega
    .refine⟨?_,h2.fl⟩
     simp only[xo,Qd]
     simp only[zb,Xa,Zk,Qd,Qi,Qr]at ht⊢
     omega
theorem q2f:∀(n:Nat)(rest:qd)(k m:Nat)(p:PSt),rest.length<=n->PB (4*k) p->PR m p->k+rest.length<=60000->PR (m+2*rest.length) (runL k (zy rest) p).2:=by
 intro n
 induction n with
 |zero=>
  intro rest k m p hr hB hR hk
  obtain rfl:rest=[]:=List.eq_nil_of_length_eq_zero Om
  rw[vm,runL]
  exact qsh hR hB Om
 |succ n ih=>
  intro rest k m p hr hB hR hk
  by_cases hne:rest=[]
  .subst hne
   rw[vm,runL]
   exact qsh hR hB Om
  .have hu:=yq 10 rest
   have hpl:=ym 10 rest
   have hr0:0<rest.length:=List.length_pos_iff.2 hne
   rw[wz hne]
   simp only[runL]
   have hB2:=qo9 (no:=k) (text:=upto 10 rest) (ended:=decide (10∈rest)) hB Om Om
   have hR2:=za4 (no:=k) (text:=upto 10 rest) (ended:=decide (10∈rest)) hR hB Om
   split
   .exact⟨by have:=hR.tot;simp only;omega,hR.fl⟩
   .have:=ih (past 10 rest) (k+1) _ _ Om hB2 hR2 Om
    exact⟨by have:=this.tot;omega,this.fl⟩
theorem zc3(text:qd):(zw (itsE text)).length<=120000∧∀x∈itsE text,x.fields.length<900000:=by
 unfold itsE
 split
 .simp[zw]
 .have h:=q2f text.length text 0 0 p0 (Zw _) qvs ⟨by simp[p0,zw,zb],by simp[p0]⟩ Om
  unfold jq
  split
  .simp[zw]
  .have:=h.tot
   exact⟨by simp only;omega,h.fl⟩
def LI(l:qo):Prop:=∀e∈l.ents,e.x.raw.length<=1000000∧e.x.fields.length<900000
theorem q63:∀(its:List qx)(l:qo),LI l->(∀x∈its,x.raw.length<=1000000∧x.fields.length<900000)->LI (its.foldl vi l)
 | [],l,h,_=>h
 |x::r,l,h,hx=>by
  rw[Zm]
  refine q63 r _ ?_ λy hy=>hx y (by simp[hy])
  have h1:=hx x Sx
  unfold vi
  split
  .intro e he
   simp only[Qh,Zd]at he
   rcases he with he|rfl
   .exact h e he
   .exact h1
  .intro e he
   simp only[Qh,Zd]at he
   rcases he with he|rfl
   .exact h e he
   .exact h1
theorem qlx(text:qd):LI (ofF (itsE text)):=by
 obtain⟨h1,h2⟩:=zc3 text
 refine q63 _ _ (by simp[LI]) λx hx=>⟨?_,h2 x hx⟩
 have:=zah hx
 omega
theorem qui(fs:List Fld):(wd fs).raw.length<=1000000∧(wd fs).fields.length<900000:=by
 unfold wd
 split
 .rename_i h
  obtain⟨_,g1,g2⟩:=qa4 h
  have:=qh3 fs g2
  exact⟨by simp only;omega,by simp only;omega⟩
 .exact⟨Sx,Sx⟩
theorem zap{l:qo}(h:LI l)(id:Int)(fs:List Fld):LI (vw l id fs).2:=by
 unfold vw
 split
 .exact h
 .split
  .unfold qe4
   split
   .intro y hy
    rcases Zq hy with hy|rfl
    .exact h y hy
    .exact qui fs
   .exact h
  .exact h
theorem zce{l:qo}(h:LI l)(id:Int):LI (delF l id).2:=by
 unfold delF
 split
 .exact h
 .intro y hy
  simp only[delL,Qh]at hy
  rcases hy with hy|hy
  .exact h y (Qy hy)
  .exact h y (Qz hy)
theorem zcz{l:qo}(h:LI l)(id:Int)(fs:List Fld):LI (insF l id fs).2.2:=by
 unfold insF
 split
 .exact h
 .split
  .split
   .exact h
   .intro y hy
    simp only[insL,Qh,Qk]at hy
    rcases hy with hy|rfl|hy
    .exact h y (Qy hy)
    .exact qui fs
    .exact h y (Qz hy)
  .exact h
theorem qps:∀(its:List qx)(b:Bool),(∀x∈its,x.raw.length<=1000000)->(zw (je b its)).length<=1000001*its.length
 | [],b,h=>by simp[je,zw]
 |x::r,b,h=>by
  have ih:=qps r (decide (x.kind≠1)) λy hy=>h y (by simp[hy])
  have hx:=h x Sx
  rw[je,qai,Qd]
  split
  .rw[qrg,qa1]
   simp only[Qd,Qi,Qr]
   omega
  .rw[qa1]
   simp only[Qi]
   omega
theorem za6{n:Nat}{l:qo}(hB:LB n l)(h:LI l):(xd l).length<=1000000000000:=by
 have h1:=qps (zm l) false λx hx=>by
  obtain⟨e,he,rfl⟩:=Zr.1 hx
  exact(h e he).1
 have h2:=hB.len
 have h3:=hB.small
 unfold xd wn
 have:(zm l).length=l.ents.length:=by simp[zm]
 omega
end Go.Pl
namespace Go.Proofs.YtapblfabkbdgcaaGreatDoor
open Go Go.Av Go.RowKit Go.Proofs Go.Pl
theorem zdr{l:qo}(h:LI l)(x:qq):LI (oneF l x).2.2:=by
 unfold oneF
 split
 .exact zap h _ _
 .split
  .exact zce h _
  .exact zcz h _ _
theorem qtn:∀(b:List qq)(k:Nat)(l:qo)(ids:List Int),LI l->LI (ke k b l ids).2.1
 | [],k,l,ids,h=>h
 |x::r,k,l,ids,h=>by
  unfold ke
  split
  .exact qtn r (k+1) _ _ (zdr h x)
  .exact h
theorem ze4{l:qo}(h:LI l)(b:List qq):LI (doF l b).2.1:=by
 unfold doF
 split
 .exact qtn b 0 l [] h
 .exact h
theorem zc2{n:Nat}{l:qo}(hB:LB n l)(h:LI l):ItsB (zm l):=by
 have h1:=hB.len
 have h2:=hB.small
 refine⟨by simp[zm];omega,λx hx=>?_⟩
 obtain⟨e,he,rfl⟩:=Zr.1 hx
 have:=(h e he).2
 omega
theorem q0t(its:List qx)(st:List AObj)(hl:its.length<1000000000)(hr:(zw its).length<=1000000000000):ql E 96 [jm its] st λr st'=>r=Sv (zw its)∧st'=st:=by
 refine q5 [.a (jm its)] (qt _) Tryz.func96 rfl rfl (λ_=>rfl) rfl λS0=>?_
 have hmi:(its.map jh).length=its.length:=Sx
 apply qe []
 repeat' (first|apply Qa|(intro h;try exact cDd)|exact cSd|apply qc []|refine exr ?_|refine qf ?_)
 refine zl (X:=Nat) (λk=>⟨[(0,.a (jm its)),(3,.s (zw (its.take k))),(4,.i k)],[],0⟩) (λk=>k<=its.length) (λk=>its.length-k) 0 Om ?_ ?_
 .skip
  repeat' (first|apply Qa|(intro h;try exact cDd)|exact cSd|apply qc []|refine exr ?_|refine qf ?_)
  all_goals (simp[zw];done)
 .rintro k hk
  by_cases hkn:k<its.length
  .have hx:its[k]?=some its[k]:=Qc hkn
   have hxm:(its.map jh)[k]?=some (jh its[k]):=by rw[Qe,hx];rfl
   have htk:its.take (k+1)=its.take k++[its[k]]:=by rw[Qq,hx];rfl
   have hrl:(zw (its.take k)).length+its[k].raw.length<=1000000000000:=by
    have h1:zw its=zw (its.take (k+1))++zw (its.drop (k+1)):=by rw[<-qai,Qg]
    rw[h1,htk,qai,qa1]at hr
    simp only[Qd]at hr
    omega
   generalize its[k]=x at hx hxm htk hrl
   apply qe []
   repeat' (first|apply Qa|(intro h;try exact cDd)|(refine Qb (k) ⟨Om,_,hxm,?_⟩)|(refine Qb (k+1) ⟨Om,Om,?_⟩)|exact cSd|apply qc []|refine exr ?_|refine qf ?_)
   all_goals first|(rw[htk,qai,qa1];done)|omega
  .have hkn:k=its.length:=by omega
   subst hkn
   rw[Zj]
   apply qe []
   repeat' (first|apply Qa|(intro h;try exact cDd)|exact cSd|apply qc []|refine exr ?_|refine qf ?_)
theorem qyj(its:List qx)(st:List AObj)(hl:its.length<=1000000):ql E 97 [jm its] st λr st'=>r=jm (wn its)∧st'=st:=by
 refine q5 [.a (jm its)] (x3 _) Tryz.func97 rfl rfl (λ_=>rfl) rfl λS0=>?_
 have hmi:(its.map jh).length=its.length:=Sx
 apply qe []
 repeat' (first|apply Qa|(intro h;try exact cDd)|exact cSd|apply qc []|refine exr ?_|refine qf ?_)
 refine zl (X:=Nat×List qx) (λ(k,out)=>⟨[(0,.a (jm its)),(3,.tp 0),(4,.i k)],[(0,some (.tip 3 107 (out.map jh)))],1⟩)
  (λ(k,out)=>k<=its.length∧out.length<=2*k∧∃prev,(prev=true↔∃y,0<k∧its[k-1]?=some y∧y.kind≠1)∧out++je prev (its.drop k)=wn its) (λ(k,out)=>its.length-k) (0,[]) ⟨Om,Sx,false,Sx,rfl⟩ ?_ ?_
 .skip
  repeat' (first|apply Qa|(intro h;try exact cDd)|exact cSd|apply qc []|refine exr ?_|refine qf ?_)
  all_goals first|rfl|(simp;done)
 .rintro⟨k,out⟩ ⟨hk,hol,prev,hpv,hrun⟩
  by_cases hkn:k<its.length
  .have hx:its[k]?=some its[k]:=Qc hkn
   have hxm:(its.map jh)[k]?=some (jh its[k]):=by rw[Qe,hx];rfl
   rw[Qf hkn,je]at hrun
   generalize its[k]=x at hx hxm hrun
   have hml:(out.map jh).length=out.length:=Sx
   have hnext:(decide (x.kind≠1)=true↔∃y,0<k+1∧its[k+1-1]?=some y∧y.kind≠1):=by
    rw[decide_eq_true_iff,Zy,hx]
    constructor
    .intro h
     exact⟨x,Om,rfl,h⟩
    .rintro⟨y,_,h1,h2⟩
     simp only[Qt]at h1
     rw[h1]
     exact h2
   by_cases hk0:k=0
   .have hp:¬(prev=true):=λh=>by
     obtain⟨_,h,_⟩:=hpv.1 h
     omega
    rw[if_neg (λh=>hp h.1)]at hrun
    apply qe []
    repeat' (first|apply Qa|(intro h;try exact cDd)|(refine Qb (k) ⟨Om,_,hxm,?_⟩)|(refine Qb (k+1,out++[x]) ⟨⟨Om,So,_,hnext,by rw[<-hrun];simp⟩,by simp only;omega,?_⟩)|exact cSd|apply qc []|refine exr ?_|refine qf ?_)
    all_goals first|(simp[SV.evs,SV.ev];done)|(simp[SV.evs];omega)
   .obtain⟨y,hy⟩:∃y,its[k-1]?=some y:=⟨_,Qc (by omega:k-1<its.length)⟩
    have hym:(its.map jh)[k-1]?=some (jh y):=by rw[Qe,hy];rfl
    have hpy:(prev=true↔y.kind≠1):=by
     rw[hpv]
     constructor
     .rintro⟨z,_,h1,h2⟩
      rw[hy]at h1
      simp only[Qt]at h1
      rw[h1]
      exact h2
     .exactλh=>⟨y,Om,hy,h⟩
    by_cases hb:x.kind≠1∧y.kind≠1
    .rw[if_pos ⟨hpy.2 hb.2,hb.1⟩]at hrun
     obtain⟨hb1,hb2⟩:=hb
     apply qe []
     repeat' (first|apply Qa|(intro h;try exact cDd)|(refine Qb (k-1) ⟨Om,_,hym,?_⟩)|(refine Qb (k) ⟨Om,_,hxm,?_⟩)|(refine Qb (k+1,out++[⟨1,[10],[]⟩,x]) ⟨⟨Om,So,_,hnext,by rw[<-hrun];simp⟩,by simp only;omega,?_⟩)|exact cSd|apply qc []|refine exr ?_|refine qf ?_)
     all_goals first|(simp[SV.evs,SV.ev];done)|(simp[SV.evs];omega)
    .rw[if_neg (λh=>hb ⟨h.2,hpy.1 h.1⟩)]at hrun
     apply qe []
     repeat' (first|apply Qa|(intro h;try exact cDd)|(refine Qb (k-1) ⟨Om,_,hym,?_⟩)|(refine Qb (k) ⟨Om,_,hxm,?_⟩)|(refine Qb (k+1,out++[x]) ⟨⟨Om,So,_,hnext,by rw[<-hrun];simp⟩,by simp only;omega,?_⟩)|exact absurd ⟨by assumption,by assumption⟩ hb|exact cSd|apply qc []|refine exr ?_|refine qf ?_)
     all_goals first|(simp[SV.evs,SV.ev];done)|(simp[SV.evs];omega)
  .have hkn:k=its.length:=by omega
   subst hkn
   rw[Qu,je,Qp]at hrun
   rw[<-hrun]
   apply qe []
   repeat' (first|apply Qa|(intro h;try exact cDd)|exact cSd|apply qc []|refine exr ?_|refine qf ?_)
theorem qvb(its:List qx)(st:List AObj)(hl:its.length<=1000000)(hr:(zw (wn its)).length<=1000000000000):ql E 56 [jm its] st λr st'=>r=Sv (zw (wn its))∧st'=st:=by
 refine q5 [.a (jm its)] (qt _) Tryz.func56 rfl rfl (λ_=>rfl) rfl λS0=>?_
 have h1:=λst=>qyj its st hl
 have hal:=qk6 false its
 have h2:=λst=>q0t (wn its) st (by unfold wn;omega) hr
 apply qe []
 repeat' (first|apply Qa|(intro h;try exact cDd)|exact⟨Tryz.call97⟩|refine cpe h1 ?_|exact⟨Tryz.call96⟩|refine cpe h2 ?_|exact cSd|apply qc []|refine exr ?_|refine qf ?_)
theorem qyo(l:qo)(st:List AObj)(hl:l.ents.length<1000000):ql E 57 [jr l] st λr st'=>r=jm (zm l)∧st'=st:=by
 refine q5 [.a (jr l)] (x3 _) Tryz.func57 rfl rfl (λ_=>rfl) rfl λS0=>?_
 have hmi:(l.ents.map entA).length=l.ents.length:=Sx
 have hil:(zm l).length=l.ents.length:=by simp[zm]
 apply qe []
 repeat' (first|apply Qa|(intro h;try exact cDd)|exact cSd|apply qc []|refine exr ?_|refine qf ?_)
 refine zl (X:=Nat) (λk=>⟨[(1,.a (.pp [qdb l.ents,Iv l.next])),(3,.tp 0),(4,.i k)],[(0,some (.tip 3 107 (((zm l).take k).map jh)))],1⟩)
  (λk=>k<=l.ents.length) (λk=>l.ents.length-k) 0 Om ?_ ?_
 .skip
  repeat' (first|apply Qa|(intro h;try exact cDd)|exact cSd|apply qc []|refine exr ?_|refine qf ?_)
  all_goals first|rfl|(simp;done)
 .rintro k hk
  by_cases hkn:k<l.ents.length
  .have hx:l.ents[k]?=some l.ents[k]:=Qc hkn
   have hxm:(l.ents.map entA)[k]?=some (entA l.ents[k]):=by rw[Qe,hx];rfl
   have hxi:(zm l)[k]?=some l.ents[k].x:=by unfold zm;rw[Qe,hx];rfl
   have htk:(zm l).take (k+1)=(zm l).take k++[l.ents[k].x]:=by rw[Qq,hxi];rfl
   have htl:(((zm l).take k).map jh).length<=k:=So
   generalize l.ents[k]=e at hx hxm hxi htk
   apply qe []
   repeat' (first|apply Qa|(intro h;try exact cDd)|(refine Qb (k) ⟨Om,_,hxm,?_⟩)|(refine Qb (k+1) ⟨Om,Om,?_⟩)|exact cSd|apply qc []|refine exr ?_|refine qf ?_)
   all_goals first|(rw[htk];simp;done)|(simp[SV.evs];omega)
  .have hkn:k=l.ents.length:=by omega
   subst hkn
   have e:(zm l).take l.ents.length=zm l:=Ze Om
   rw[e]
   apply qe []
   repeat' (first|apply Qa|(intro h;try exact cDd)|exact cSd|apply qc []|refine exr ?_|refine qf ?_)
theorem qn2(l:qo)(st:List AObj)(hl:l.ents.length<1000000)(hr:(xd l).length<=1000000000000):ql E 31 [jr l] st λr st'=>r=Sv (xd l)∧st'=st:=by
 refine q5 [.a (jr l)] (qt _) Tryz.func31 rfl rfl (λ_=>rfl) rfl λS0=>?_
 have h1:=λst=>qyo l st hl
 have h2:=λst=>qvb (zm l) st (by simp[zm];omega) hr
 apply qe []
 repeat' (first|apply Qa|(intro h;try exact cDd)|exact⟨Tryz.call57⟩|refine cpe h1 ?_|exact⟨Tryz.call56⟩|refine cpe h2 ?_|exact cSd|apply qc []|refine exr ?_|refine qf ?_)
end Go.Proofs.YtapblfabkbdgcaaGreatDoor
