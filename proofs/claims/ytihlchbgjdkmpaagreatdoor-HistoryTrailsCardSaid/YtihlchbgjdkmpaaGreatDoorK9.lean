/- Contracts and plain facts that the closing text leans on (part 9). No condition of their own beyond those that each states. -/
import Derived.Test.YtihlchbgjdkmpaaGreatDoorK8
set_option maxRecDepth 100000
set_option linter.unusedVariables false
set_option linter.unusedSimpArgs false
open And renaming intro→Qa
open Exists renaming intro→Qb
open Int renaming toNat_natCast→Qh
open List renaming getElem?_eq_getElem→Qc,getElem?_map→Qd,length_append→Qe,drop_eq_getElem_cons→Qf,length_map→Qg,take_append_drop→Qi,mem_cons→Qj,getElem?_set_ne→Qk,drop_eq_nil_of_le→Ql,not_mem_nil→Qm,length_cons→Qo,append_nil→Qp,map_append→Qq,take_add_one→Qr,getElem_mem→Qs,drop_length→Qt,mem_append→Qu,append_assoc→Qv,take_length→Qw,getElem?_append_left→Qx,nil_append→Qy,getElem?_eq_some_iff→Qz,map_take→Zb,map_cons→Zc,length_take→Zd,length_drop→Ze,cons_append→Zf,mem_of_getElem?→Zg,mem_of_mem_take→Zh,take_left→Zi,map_drop→Zj,drop_append→Zk,map_nil→Zl,length_eq_zero_iff→Zm,foldl_cons→Zo,take_of_length_le→Zp,length_filter_le→Zq,mem_of_mem_drop→Zr,mem_map→Zt,countP_cons→Zw,take_append→Zx,drop_left→Zy,set_set→Zz
open Nat renaming le_of_ble_eq_true→Qn,min_eq_left→Zn,le_refl→Zv,le_trans→Xa
open Option renaming toList_some→Zu
open Option.some renaming injEq→Za
open Prod renaming ext→Xb
open Prod.mk renaming injEq→Zs
namespace Go.Pl
open Go Go.Proofs
def qzd(fs:List Fld):qc:=if z4 fs=.no then zy fs else []
def yn(fs:List Fld):zh:=if z4 fs=.no then⟨3,zy fs,fs⟩else⟨0,[],[]⟩
def wi(its:List zh):qc:=its.flatMap λx=>x.raw
theorem qg3(a b:List zh):wi (a++b)=wi a++wi b:=by simp[wi]
theorem qg4(x:zh):wi [x]=x.raw:=by simp[wi]
def vn(prev:Bool):List zh->List zh
 | []=>[]
 |x::r=>(if prev=true∧x.kind≠1 then [⟨1,[10],[]⟩,x]else [x])++vn (decide (x.kind≠1)) r
def qb3(its:List zh):List zh:=vn false its
def jv(l:qu):List zh:=l.ents.map λe=>e.x
def qsp(l:qu):qc:=wi (qb3 (jv l))
end Go.Pl
namespace Go.Proofs.YtihlchbgjdkmpaaGreatDoor
open Go Go.Av Go.RowKit Go.Proofs Go.Pl
theorem zf2(fs:List Fld)(st:List AObj)(hK:KeyB fs)(hl:fs.length<9223372036854775808):qr E 262 [jl fs] st λr st'=>r=.tu [Sv (qzd fs),errA (z4 fs)]∧st'=st:=by
 refine zj [.a (jl fs)] (kc (qt _) (ku _)) Tryz.func262 rfl rfl (λ_=>rfl) rfl λS0=>?_;unfold qzd
 cases he:z4 fs with
 |no=>
  rw[if_pos rfl];have h1:=λst=>qpa fs st _ he hK hl;obtain⟨_,h3,h4⟩:=qcm he;have h2:=λst=>qwt fs st h3 h4;apply qf []
  repeat' (first|apply Qa|(intro h;try exact cDd)|exact⟨Tryz.call200⟩|refine cpe h1 ?_|exact⟨Tryz.call100⟩|refine cpe h2 ?_|exact cSd|apply qd []|refine exr ?_|refine qg ?_)
 |num n=>
  rw[if_neg Sx];have h1:=λst=>qpa fs st _ he hK hl;apply qf []
  repeat' (first|apply Qa|(intro h;try exact cDd)|exact⟨Tryz.call200⟩|refine cpe h1 ?_|exact cSd|apply qd []|refine exr ?_|refine qg ?_)
 |at' a n=>
  rw[if_neg Sx];have h1:=λst=>qpa fs st _ he hK hl;apply qf [];repeat' (first|apply Qa|(intro h;try exact cDd)|exact⟨Tryz.call200⟩|refine cpe h1 ?_|exact cSd|apply qd []|refine exr ?_|refine qg ?_)
theorem zao(fs:List Fld)(st:List AObj)(hK:KeyB fs)(hl:fs.length<1000000):qr E 224 [jl fs] st λr st'=>r=.tu [kq (yn fs),errA (z4 fs)]∧st'=st:=by
 refine zj [.a (jl fs)] (kc (qak (qi1 _)) (ku _)) Tryz.func224 rfl rfl (λ_=>rfl) rfl λS0=>?_;have h1:=λst=>zf2 fs st hK Om;have h2:=λst=>qho fs st hl;unfold qzd at h1;unfold yn
 cases he:z4 fs with
 |no=>
  rw[he,if_pos rfl]at h1;rw[if_pos rfl];apply qf []
  repeat' (first|apply Qa|(intro h;try exact cDd)|exact⟨Tryz.call262⟩|refine cpe h1 ?_|exact⟨Tryz.call40⟩|refine cpe h2 ?_|exact cSd|apply qd []|refine exr ?_|refine qg ?_)
 |num n=>
  rw[he,if_neg Sx]at h1;rw[if_neg Sx];apply qf []
  repeat' (first|apply Qa|(intro h;try exact cDd)|exact⟨Tryz.call262⟩|refine cpe h1 ?_|exact cSd|apply qd []|refine exr ?_|refine qg ?_)
 |at' a n=>
  rw[he,if_neg Sx]at h1;rw[if_neg Sx];apply qf [];repeat' (first|apply Qa|(intro h;try exact cDd)|exact⟨Tryz.call262⟩|refine cpe h1 ?_|exact cSd|apply qd []|refine exr ?_|refine qg ?_)
theorem zh7(x:zh)(st:List AObj)(hl:x.fields.length<1000000):qr E 138 [kq x] st λr st'=>r=kq x∧st'=st:=by
 refine zj [.a (kq x)] (qak (qi1 _)) Tryz.func138 rfl rfl (λ_=>rfl) rfl λS0=>?_;have h2:=λst=>qho x.fields st hl;apply qf [1];repeat' (first|apply Qa|(intro h;try exact cDd)|exact⟨Tryz.call40⟩|refine cpe h2 ?_|exact cSd|apply qd [1]|refine exr ?_|refine qg ?_)
structure ItsB (its:List zh):Prop where
 len:its.length<=1000000
 fld:∀x∈its,x.fields.length<1000000
theorem qzv(prev:Bool):∀its:List zh,(vn prev its).length<=2*its.length
 | []=>by simp[vn]
 |x::r=>by
  have ih:=qzv (decide (x.kind≠1)) r;unfold vn;split <;>simp only[Qe,Qo,List.length_nil]<;>omega
theorem zjj(its:List zh)(st:List AObj)(hB:ItsB its):qr E 93 [vr its] st λr st'=>r=vr (qb3 its)∧st'=st:=by
 refine zj [.a (vr its)] (qc9 _) Tryz.func93 rfl rfl (λ_=>rfl) rfl λS0=>?_;have hln:=hB.len;apply qf [];repeat' (first|apply Qa|(intro h;try exact cDd)|exact cSd|apply qd []|refine exr ?_|refine qg ?_)
 refine zx (X:=Nat×List zh) (λ(k,out)=>⟨[(0,.a (vr its)),(3,.tp 0),(6,.a (vr its)),(7,.i its.length),(8,.i k)],[(0,some (.tip 3 98 (out.map kq)))],1⟩)
  (λ(k,out)=>k<=its.length∧out.length<=2*k∧∃prev,(prev=true↔∃y,0<k∧its[k-1]?=some y∧y.kind≠1)∧out++vn prev (its.drop k)=qb3 its) (λ(k,out)=>its.length-k) (0,[]) ⟨Om,Sx,false,Sx,rfl⟩ ?_ ?_
 .skip
  repeat' (first|apply Qa|(intro h;try exact cDd)|exact cSd|apply qd []|refine exr ?_|refine qg ?_)
  all_goals (simp;done)
 .rintro⟨k,out⟩ ⟨hk,mw,prev,hpv,a8⟩
  by_cases e9:k<its.length
  .have hx:its[k]?=some its[k]:=Qc e9
   have i3:(its.map kq)[k]?=some (kq its[k]):=by rw[Qd,hx];rfl
   have hxf:=hB.fld its[k] (Qs e9);rw[Qf e9,vn]at a8;generalize its[k]=x at hx i3 a8 hxf;have sg:=λst=>zh7 x st hxf;have o0:(out.map kq).length=out.length:=Sx
   have hnext:(decide (x.kind≠1)=true↔∃y,0<k+1∧its[k+1-1]?=some y∧y.kind≠1):=by
    rw[decide_eq_true_iff,Nat.add_sub_cancel,hx];constructor
    .intro h
     exact⟨x,Om,rfl,h⟩
    .rintro⟨y,_,h1,h2⟩
     simp only[Za]at h1;rw[h1];exact h2
   by_cases hk0:k=0
   .have hp:¬(prev=true):=λh=>by
     obtain⟨_,h,_⟩:=hpv.1 h;omega
    rw[if_neg (λh=>hp h.1)]at a8;apply qf [];repeat' (first|apply Qa|(intro h;try exact cDd)|(refine Qb (k) ⟨Om,_,i3,?_⟩)|exact⟨Tryz.call138⟩|refine cpe sg ?_|(refine Qb (k+1,out++[x]) ⟨⟨Om,So,_,hnext,by rw[<-a8];simp⟩,by simp only;omega,?_⟩)|exact cSd|apply qd []|refine exr ?_|refine qg ?_)
    all_goals first|(simp[SV.evs,SV.ev];done)|(simp[SV.evs];omega)
   .obtain⟨y,hy⟩:∃y,its[k-1]?=some y:=⟨_,Qc (by omega:k-1<its.length)⟩
    have hym:(its.map kq)[k-1]?=some (kq y):=by rw[Qd,hy];rfl
    have hpy:(prev=true↔y.kind≠1):=by
     rw[hpv];constructor
     .rintro⟨z,_,h1,h2⟩
      rw[hy]at h1;simp only[Za]at h1;rw[h1];exact h2
     .exactλh=>⟨y,Om,hy,h⟩
    by_cases hb:x.kind≠1∧y.kind≠1
    .rw[if_pos ⟨hpy.2 hb.2,hb.1⟩]at a8
     obtain⟨r6,t6⟩:=hb;apply qf [];repeat' (first|apply Qa|(intro h;try exact cDd)|(refine Qb (k) ⟨Om,_,i3,?_⟩)|(refine Qb (k-1) ⟨Om,_,hym,?_⟩)|exact⟨Tryz.call138⟩|refine cpe sg ?_|(refine Qb (k+1,out++[⟨1,[10],[]⟩,x]) ⟨⟨Om,So,_,hnext,by rw[<-a8];simp⟩,by simp only;omega,?_⟩)|exact cSd|apply qd []|refine exr ?_|refine qg ?_)
     all_goals first|(simp[SV.evs,SV.ev];done)|(simp[SV.evs];omega)
    .rw[if_neg (λh=>hb ⟨h.2,hpy.1 h.1⟩)]at a8
     apply qf [];repeat' (first|apply Qa|(intro h;try exact cDd)|(refine Qb (k) ⟨Om,_,i3,?_⟩)|(refine Qb (k-1) ⟨Om,_,hym,?_⟩)|exact⟨Tryz.call138⟩|refine cpe sg ?_|(refine Qb (k+1,out++[x]) ⟨⟨Om,So,_,hnext,by rw[<-a8];simp⟩,by simp only;omega,?_⟩)|exact absurd ⟨by assumption,by assumption⟩ hb|exact cSd|apply qd []|refine exr ?_|refine qg ?_)
     all_goals first|(simp[SV.evs,SV.ev];done)|(simp[SV.evs];omega)
  .have e9:k=its.length:=by omega
   subst e9;rw[Qt,vn,Qp]at a8;rw[<-a8];apply qf [];repeat' (first|apply Qa|(intro h;try exact cDd)|exact cSd|apply qd []|refine exr ?_|refine qg ?_)
theorem zm5(its:List zh)(st:List AObj)(hl:its.length<=4000000)(hr:(wi its).length<=1000000000000):qr E 92 [vr its] st λr st'=>r=Sv (wi its)∧st'=st:=by
 refine q5 (qt _) (qs Tryz.func92 rfl (Qn rfl) ?_);have o0:(its.map kq).length=its.length:=Sx
 repeat' (first|(apply qin;exact rfl)|apply qq|apply q6|apply qh|apply qj|apply ql|apply qi|(apply jp;(iterate 4 exact rfl)))
 refine qck its (λpre s=>∃q,(q=.v (.pointer none)∨q=.bx (st.length+0) 0 0)∧StE [(3,.bx (st.length+0) 0 0),(6,vr its),(7,Iv its.length),(8,Iv pre.length)] st [bldO 0 q (wi pre) (st.length+1),.tip (wi pre).length 1 5] s) ⟨_,.inl rfl,qfq ⟨rfl,rfl,congrArg (λn:Nat=>Iv (n:Int)) o0,rfl,trivial⟩ rfl⟩ ?_ ?_
 .rintro _ ⟨q,hq,t,ext,rfl⟩
  repeat' (first|apply qq|apply qh|apply qj|apply qi|(apply qv;(iterate 3 exact rfl))|(apply qe;exact rfl;apply v8;exact cAo)|apply jd|apply qw|(refine qm Tryz.call104 (qiq st _ _ _ _ 0 1 0 _ _ rfl rfl rfl) ?_))
  exact qo rfl (q7 rfl) ⟨rfl,qbx _ _ _ _⟩
 .rintro pre x rest _ hre ⟨q,hq,t,ext,rfl⟩
  have d5:its.length=pre.length+(rest.length+1):=by rw[hre];simp
  have d9:(its.map kq)[pre.length]?=some (kq x):=by rw[hre];simp
  have dj:(wi pre).length+x.raw.length<=1000000000000:=by
   have e:x::rest=[x]++rest:=rfl;rw[hre,qg3,e,qg3,qg4]at hr;simp only[Qe]at hr;omega
  repeat' (first|apply qq|apply q6|apply qh|apply qj|(apply qv;(iterate 3 exact rfl))|(apply qe;exact rfl;apply vo;exact cAo)|(apply j7;exact rfl;exact rfl)|(apply zl;(iterate 3 exact rfl))|(apply jq;(iterate 3 exact rfl))|(apply jr;(iterate 5 exact rfl))|(apply jc;(iterate 11 exact rfl))|apply qz|(apply kp (n:=pre.length);(iterate 5 exact rfl);exact d9))
  refine qm Tryz.call101 (qj8 st _ _ _ _ 0 1 0 _ _ _ rfl rfl ?_ ?_ rfl) ?_;(exact hq);(omega);repeat' (first|apply qh|apply qj|apply ql|(apply zo;exact rfl;exact rfl;exact q8 Om Om))
  refine⟨_,.inr rfl,qb7 ⟨rfl,rfl,rfl,?_,trivial⟩ ?_⟩
  .rw[qd6 pre x];rfl
  .rw[qg3,qg4];rfl
theorem zj3(its:List zh)(st:List AObj)(hB:ItsB its)(hr:(wi (qb3 its)).length<=1000000000000):qr E 50 [vr its] st λr st'=>r=Sv (wi (qb3 its))∧st'=st:=by
 refine zj [.a (vr its)] (qt _) Tryz.func50 rfl rfl (λ_=>rfl) rfl λS0=>?_;have h1:=λst=>zjj its st hB;have hal:=qzv false its;have hln:=hB.len;have h2:=λst=>zm5 (qb3 its) st (by unfold qb3;omega) hr;apply qf [];repeat' (first|apply Qa|(intro h;try exact cDd)|exact⟨Tryz.call93⟩|refine cpe h1 ?_|exact⟨Tryz.call92⟩|refine cpe h2 ?_|exact cSd|apply qd []|refine exr ?_|refine qg ?_)
theorem zi5(l:qu)(st:List AObj)(hB:ItsB (jv l)):qr E 51 [v4 l] st λr st'=>r=vr (jv l)∧st'=st:=by
 refine zj [.a (v4 l)] (qc9 _) Tryz.func51 rfl rfl (λ_=>rfl) rfl λS0=>?_;have hln:=hB.len;have dg:(jv l).length=l.ents.length:=by simp[jv]
 apply qf [];repeat' (first|apply Qa|(intro h;try exact cDd)|exact cSd|apply qd []|refine exr ?_|refine qg ?_)
 refine zx (X:=Nat) (λk=>⟨[(3,.tp 0),(12,.a (.sl 4 (l.ents.map entA) none)),(13,.i l.ents.length),(14,.i k)],[(0,some (.tip 3 98 (((jv l).take k).map kq)))],1⟩)
  (λk=>k<=l.ents.length) (λk=>l.ents.length-k) 0 Om ?_ ?_
 .skip
  repeat' (first|apply Qa|(intro h;try exact cDd)|exact cSd|apply qd []|refine exr ?_|refine qg ?_)
  all_goals (simp;done)
 .rintro k hk
  by_cases e9:k<l.ents.length
  .have hx:l.ents[k]?=some l.ents[k]:=Qc e9
   have i3:(l.ents.map entA)[k]?=some (entA l.ents[k]):=by rw[Qd,hx];rfl
   have hxi:(jv l)[k]?=some l.ents[k].x:=by unfold jv;rw[Qd,hx];rfl
   have hxf:=hB.fld l.ents[k].x (Zg hxi);have i6:(jv l).take (k+1)=(jv l).take k++[l.ents[k].x]:=by rw[Qr,hxi];rfl
   have htl:(((jv l).take k).map kq).length<=k:=So
   generalize l.ents[k]=e at hx i3 hxi hxf i6;have sg:=λst=>qho e.x.fields st hxf;apply qf [];repeat' (first|apply Qa|(intro h;try exact cDd)|(refine Qb (k) ⟨Om,_,i3,?_⟩)|exact⟨Tryz.call40⟩|refine cpe sg ?_|(refine Qb (k+1) ⟨Om,Om,?_⟩)|exact cSd|apply qd []|refine exr ?_|refine qg ?_)
   all_goals first|(rw[i6];simp;done)|(simp[SV.evs];omega)
  .have e9:k=l.ents.length:=by omega
   subst e9;have e:(jv l).take l.ents.length=jv l:=Zp Om;rw[e];apply qf [];repeat' (first|apply Qa|(intro h;try exact cDd)|exact cSd|apply qd []|refine exr ?_|refine qg ?_)
theorem zmh(l:qu)(st:List AObj)(hB:ItsB (jv l))(hr:(qsp l).length<=1000000000000):qr E 23 [v4 l] st λr st'=>r=Sv (qsp l)∧st'=st:=by
 refine zj [.a (v4 l)] (qt _) Tryz.func23 rfl rfl (λ_=>rfl) rfl λS0=>?_;have h1:=λst=>zi5 l st hB;have h2:=λst=>zj3 (jv l) st hB hr;apply qf [];repeat' (first|apply Qa|(intro h;try exact cDd)|exact⟨Tryz.call51⟩|refine cpe h1 ?_|exact⟨Tryz.call50⟩|refine cpe h2 ?_|exact cSd|apply qd []|refine exr ?_|refine qg ?_)
theorem qk4(es:List EntV):∀x∈es.map entA,x.cells.length=4:=λx hx=>by
 obtain⟨e,_,rfl⟩:=Zt.1 hx;rfl
theorem qeq(es:List EntV):(flat (es.map entA)).length=es.length*4:=by
 rw[zw (qk4 es),Qg]
theorem qji(a b:List EntV):flat ((a++b).map entA)=flat (a.map entA)++flat (b.map entA):=by rw[Qq,ym]
theorem qfp(A B xs:List AV){off:Nat}(h:A.length=off):z6 (A++B) off xs=A++xs++B.drop xs.length:=by
 unfold z6;rw[<-h,Zi,Zk,Ql Om];simp
theorem qkn{cs xs:List AV}{off:Nat}(h:off+xs.length<=cs.length):(z6 cs off xs).length=cs.length:=by
 unfold z6;simp;omega
theorem zor(es:List EntV)(i:Nat)(hi:i<es.length)(hl:es.length<1000000)(st:List AObj)(c:AV)(hc:OwnS st 4 100 (es.map entA) c):qr E 225 [c,Iv i,Iv ((i:Int)+1)] st λr st'=>OwnR 4 100 ((es.take i++es.drop (i+1)).map entA) st c r st':=by
 have o0:(es.map entA).length=es.length:=Sx
 rcases hc with⟨h0,_⟩|⟨o,ver,cap,pad,rfl,e2,e3,e4,e5,e6⟩
 .rw[h0]at o0
  simp at o0;omega
 rw[o0]at e5⊢;have d8:=lt_of_getElem? e2;have o7:=qeq es
 have cj:flat (es.map entA)++pad=flat ((es.take i).map entA)++(flat ((es.drop i).map entA)++pad):=by
  rw[<-Qv,<-qji,Qi]
 have ht4:(flat ((es.take i).map entA)).length=i*4:=by rw[qeq,Zd,Zn Om]
 have hd4:(flat ((es.drop (i+1)).map entA)).length=(es.length-(i+1))*4:=by rw[qeq,Ze]
 obtain⟨B1,bc⟩:∃B1,(flat ((es.drop i).map entA)++pad).drop (flat ((es.drop (i+1)).map entA)).length=B1:=⟨_,rfl⟩
 have r8:z6 (flat (es.map entA)++pad) (i*4) (flat ((es.drop (i+1)).map entA))=flat ((es.take i++es.drop (i+1)).map entA)++B1:=by
  rw[cj,qfp _ _ _ ht4,qji,bc]
 have gp:(flat ((es.take i++es.drop (i+1)).map entA)++B1).length=(cap+1)*4:=by
  rw[<-r8,qkn (by rw[e3,hd4];omega),e3]
 have nq:(es.take i++es.drop (i+1)).length=es.length-1:=So
 -- what is appended
 obtain⟨q,hq⟩:∃q,(if cap+1=i+1 then 0 else 0+(i+1)*4)=q:=⟨_,rfl⟩
 have hqz:((flat (es.map entA)++pad).drop q).take ((es.length-(i+1))*4)=flat ((es.drop (i+1)).map entA)∧q+(es.length-(i+1))*4<=(flat (es.map entA)++pad).length:=by
  rw[e3];by_cases hci:cap+1=i+1
  .have:es.length-(i+1)=0:=by omega
   rw[if_pos hci]at hq;rw[this,<-hq,Ql (by omega:es.length<=i+1)];exact⟨by simp[flat],Om⟩
  .rw[if_neg hci]at hq
   rw[<-hq];refine⟨?_,Om⟩
   have e:flat (es.map entA)++pad=flat ((es.take (i+1)).map entA)++(flat ((es.drop (i+1)).map entA)++pad):=by
    rw[<-Qv,<-qji,Qi]
   have e':(flat ((es.take (i+1)).map entA)).length=0+(i+1)*4:=by rw[qeq,Zd,Zn Om];omega
   rw[e,<-e',Zy,<-hd4,Zi]
 have ck:SrcA st 4 (.os o ver q (es.length-(i+1)) (cap+1-(i+1))) (es.length-(i+1)) (es.length-(i+1)) (flat ((es.drop (i+1)).map entA)):=by
  have:=SrcA.os (st:=st) (sz:=4) o ver q (es.length-(i+1)) (cap+1-(i+1)) (es.length-(i+1)) _ _ e2 hqz.2 (by rw[hqz.1];exact qdw λ_=>rfl);rw[hqz.1]at this;exact this
 refine qs Tryz.func225 rfl (Qn rfl) ?_;rw[Qp];repeat' (first|(refine jb (sz:=4) (i:=i) (j:=i+1) (m:=es.length) rfl rfl rfl ?_ ?_ ?_ ?_ ?_ ?_ ?_;exact⟨_,rfl⟩;exact⟨_,rfl⟩;exact⟨_,rfl⟩;omega;omega;omega)|apply qq|apply qh|apply qj|apply ql|apply qi|(apply qv;(iterate 3 exact rfl))|(apply qe;exact rfl;apply v8;exact cAo)|(apply jp;(iterate 4 exact rfl))|apply qz)
 refine qyl (λs=>StA [(0,.os o ver 0 (i+(es.length-(i+1))) (cap+1)),(7,Iv es.length)] (st.set o (.cells ver 100 (flat ((es.take i++es.drop (i+1)).map entA)++B1))) [] s) ?_ ?_
 .refine qlz rfl rfl ?_
  (apply qah 0;exact rfl;kernel_rfl;kernel_rfl;kernel_rfl;exact rfl;exact qbc)
  (apply qah 1;exact rfl;kernel_rfl;kernel_rfl;kernel_rfl;exact rfl;exact qbc)
  (apply qah 3;exact rfl;kernel_rfl;kernel_rfl;kernel_rfl;exact rfl;exact qbc)
  (apply qah 4;exact rfl;kernel_rfl;kernel_rfl;kernel_rfl;exact rfl;exact qbc)
  refine xz [2,5] Kr rfl ⟨⟨_,rfl,?_⟩,⟨_,rfl,?_⟩,trivial⟩
  ·(refine jb (sz:=4) (i:=0) (j:=i) (m:=cap+1) rfl rfl rfl ?_ ?_ ?_ ?_ ?_ ?_ ?_;exact rfl;exact⟨_,rfl⟩;exact rfl;omega;omega;omega)
   apply qj;refine xz [5] Kr rfl ⟨⟨_,rfl,?_⟩,trivial⟩
   (refine jb (sz:=4) (i:=i+1) (j:=es.length) (m:=cap+1) rfl rfl rfl ?_ ?_ ?_ ?_ ?_ ?_ ?_;exact⟨_,rfl⟩;exact⟨rfl,rfl⟩;exact rfl;omega;omega;omega;rw[hq])
   apply qj;refine xz [6] Kr rfl ⟨⟨_,rfl,?_⟩,trivial⟩
   (refine qpt (bytes:=56) (o:=o) (ver:=ver) (n:=i) (cap:=cap+1) (m:=es.length-(i+1)) (cs:=flat (es.map entA)++pad) rfl rfl e2 ck rfl rfl ⟨⟨_,_,rfl,rfl,rfl,rfl,rfl⟩⟩ Om e3 ?_;rw[r8])
   apply qj
   (apply qah 7;exact rfl;kernel_rfl;kernel_rfl;kernel_rfl;exact rfl;exact qzz)
   refine qeb Kr ?_;exact z7 ⟨rfl,rfl,trivial⟩
  ·(refine jb (sz:=4) (i:=i+1) (j:=es.length) (m:=cap+1) rfl rfl rfl ?_ ?_ ?_ ?_ ?_ ?_ ?_;exact⟨_,rfl⟩;exact⟨rfl,rfl⟩;exact rfl;omega;omega;omega;rw[hq])
   apply qj;refine xz [2] Kr rfl ⟨⟨_,rfl,?_⟩,trivial⟩
   (refine jb (sz:=4) (i:=0) (j:=i) (m:=cap+1) rfl rfl rfl ?_ ?_ ?_ ?_ ?_ ?_ ?_;exact rfl;exact⟨_,rfl⟩;exact rfl;omega;omega;omega)
   apply qj;refine xz [6] Kr rfl ⟨⟨_,rfl,?_⟩,trivial⟩
   (refine qpt (bytes:=56) (o:=o) (ver:=ver) (n:=i) (cap:=cap+1) (m:=es.length-(i+1)) (cs:=flat (es.map entA)++pad) rfl rfl e2 ck rfl rfl ⟨⟨_,_,rfl,rfl,rfl,rfl,rfl⟩⟩ Om e3 ?_;rw[r8])
   apply qj
   (apply qah 7;exact rfl;kernel_rfl;kernel_rfl;kernel_rfl;exact rfl;exact qzz)
   refine qeb Kr ?_;exact z7 ⟨rfl,rfl,trivial⟩
 .rintro _ ⟨t,rfl⟩
  have ft:(st.set o (AObj.cells ver 100 (flat ((es.take i++es.drop (i+1)).map entA)++B1)))[o]?=some (.cells ver 100 (flat ((es.take i++es.drop (i+1)).map entA)++B1)):=kh e2
  have hqq:(if cap+1=i+(es.length-(i+1))then 0 else 0+(i+(es.length-(i+1)))*4)=(es.length-1)*4:=by
   rw[if_neg Om];omega
  have hfe:(flat ((es.take i++es.drop (i+1)).map entA)).length=(es.length-1)*4:=by rw[qeq,nq]
  repeat' (first|(refine jb (sz:=4) (i:=i+(es.length-(i+1))) (j:=es.length) (m:=cap+1) rfl rfl rfl ?_ ?_ ?_ ?_ ?_ ?_ ?_;exact⟨_,rfl⟩;exact⟨_,rfl⟩;exact rfl;omega;omega;omega;rw[hqq])|(refine q3i (sz:=4) (bytes:=56) rfl ft rfl ⟨⟨_,_,rfl,rfl,rfl,rfl,rfl⟩⟩ rfl (by rw[gp];omega) λzs hz=>?_)|apply qq|apply qh|apply qj|apply ql|apply qi|(apply jp;(iterate 4 exact rfl))|apply qw)
  refine qo rfl (q7 rfl) ?_
  show OwnR 4 100 _ st _ (.os o ver 0 (i+(es.length-(i+1))) (cap+1)) ((st.set o _).set o (.cells ver 100 (z6 (flat ((es.take i++es.drop (i+1)).map entA)++B1) ((es.length-1)*4) zs)))
  rw[Zz,qfp _ _ _ hfe,Qv];have hB1l:(es.length-1)*4+B1.length=(cap+1)*4:=by rw[<-hfe,<-Qe];exact gp
  have hzl:zs.length=4:=by rw[hz];omega
  refine⟨.inr ⟨o,ver,cap,zs++B1.drop zs.length,?_,kh e2,?_,qk4 _,?_,e6⟩,Sx,λj hj b9=>Qk λe=>b9 (by rw[e];rfl),λo' e7=>.inr e7⟩
  .rw[Qg,nq]
   congr 1;omega
  .rw[Qe,Qe,Ze,hfe,hzl]
   omega
  .rw[Qg,nq]
   omega
theorem zm1(e:EntV)(st:List AObj)(c:AV)(hnr:qd7 c):qr E 226 [c,Iv 0,.sl 4 [entA e] none] st λr st'=>OwnR 4 100 [entA e] st c r st':=by
 refine qs Tryz.func226 rfl (Qn rfl) ?_;rw[Qp];repeat' (first|(apply jp (n:=1);(iterate 4 exact rfl))|(refine q3o (sz:=4) rfl hnr.val rfl rfl ?_ ?_;exact⟨_,rfl⟩)|(apply jp;exact rfl;exact hnr.len;exact rfl;exact rfl)|(refine qga (sz:=4) (ys:=[entA e]) (bytes:=56) hnr.val (λ_ _ h=>h) rfl rfl ⟨⟨_,_,rfl,rfl,rfl,rfl,rfl⟩⟩ rfl Sx (by simp[maxLen]) Sx λcap pad q1 q2 q3 q4=>?_)|apply qq|apply qh|apply qj|apply ql|apply qi|(apply qv;(iterate 3 exact rfl))|(apply qe;exact rfl;apply vo;exact cAo)|(apply qe;exact rfl;apply v8;exact cAo)|apply qz|apply qw)
 refine qo rfl (q7 rfl) ?_
 show OwnR 4 100 _ st c (.os st.length 0 0 _ (cap+1)) (st++[_])
 refine⟨.inr ⟨_,0,cap,pad,rfl,yc,q1,q2,q3,q4⟩,qie,λj hj _=>Qx hj,λo ho=>?_⟩;simp only[zt,Za]at ho;left;omega
theorem zm2(es:List EntV)(e:EntV)(hl:es.length<1000000)(st:List AObj)(o ver cap:Nat)(pad:List AV)(e2:st[o]?=some (.cells ver 100 (flat (es.map entA)++pad)))(e3:(flat (es.map entA)++pad).length=(cap+1)*4)(e5:es.length<=cap+1)(e6:cap+1<=maxLen):
  qr E 226 [.os o ver 0 es.length (cap+1),Iv es.length,.sl 4 [entA e] none] st λr st'=>OwnR 4 100 (es.map entA++[entA e]) st (.os o ver 0 es.length (cap+1)) r st':=by
 have o0:(es.map entA).length=es.length:=Sx
 have d8:=lt_of_getElem? e2
 have hV0:Vec 4 100 o (es.map entA) (.os o ver 0 es.length (cap+1)) (.cells ver 100 (flat (es.map entA)++pad)):=by
  have:=Vec.os (o:=o) (T:=100) (xs:=es.map entA) ver (cap+1) pad e3 (qk4 _) Om e6;rw[o0]at this;exact this
 refine qs Tryz.func226 rfl (Qn rfl) ?_;rw[Qp];repeat' (first|(apply jp (n:=1);(iterate 4 exact rfl))|(refine jb (sz:=4) (i:=es.length) (j:=es.length) (m:=cap+1) rfl rfl rfl ?_ ?_ ?_ ?_ ?_ ?_ ?_;exact⟨_,rfl⟩;exact⟨rfl,rfl⟩;exact rfl;omega;omega;omega)|(refine qpu (sz:=4) (bytes:=56) (o:=o) (xs:=es.map entA) (ys:=[entA e]) rfl (λ_ _ h=>h) hV0 e2 rfl rfl ⟨⟨_,_,rfl,rfl,rfl,rfl,rfl⟩⟩ rfl (by simp[maxLen];omega) So λa' ob' hV=>?_)|apply qq|apply qh|apply qj|apply ql|apply qi|(apply qv;(iterate 3 exact rfl))|(apply qe;exact rfl;apply vo;exact cAo)|(apply qe;exact rfl;apply v8;exact cAo)|(apply jp;(iterate 4 exact rfl))|apply qz|apply qw)
 rcases q7i hV with⟨q,_,_⟩|⟨ver',cap',pad',rfl,rfl,q1,q2,q3,q4⟩
 .simp at q
 .obtain⟨cap',rfl⟩:∃c,cap'=c+1:=⟨cap'-1,by simp at q3;omega⟩
  refine qo rfl (q7 rfl) ?_
  show OwnR 4 100 _ st _ (.os o ver' 0 _ (cap'+1)) (st.set o _)
  exact⟨.inr ⟨o,ver',cap',pad',rfl,kh e2,q1,q2,q3,q4⟩,Sx,λj hj b9=>Qk λe=>b9 (by rw[e];rfl),λo' e7=>.inr e7⟩
theorem q52(w:World)(a b:Addr)(la ca lb cb:Nat)(tA tB:TypeId)(kA kB:Nat)(h1:a.block≠b.block)(h2:w.shape? a.block=some (tA,kA))(h3:w.shape? b.block=some (tB,kB))(h4:kA≠0)(h5:w.frozen? b=false)(h6:w.frozen? {block:=b.block,off:=kB}=false):
  (callFunc 263 #[.slice (some a) la ca,.slice (some b) lb cb]).run E.P w=.ok (.value (.bool false)) w:=by
 have hz:∀w,(Go.sizeOf 100).run E.P w=.ok 4 w:=λw=>(vw (agg:=true) rfl w).1
 rw[run_callFunc_extern (P:=E.P) Tryz.func263 Kr Kr Kr (e:=Extern.SlicesOverlaps.overlaps #[142,142] #[4]) Kr,
  qu3 w 142 4 100 rfl 4 hz a b la ca lb cb h1 tA tB kA kB h2 h3 h4 h5 h6]
 rfl
structure InsB (es:List EntV) (e:EntV) (i cap:Nat) (pad:List AV):Prop where
 t4:(flat ((es.take i).map entA)).length=i*4
 d4:(flat ((es.drop i).map entA)).length=(es.length-i)*4
 split:flat (es.map entA)++pad=flat ((es.take i).map entA)++(flat ((es.drop i).map entA)++pad)
 take:(flat (es.map entA)++pad).take (i*4)=flat ((es.take i).map entA)
 drop:((flat (es.map entA)++pad).drop (0+i*4)).take ((es.length-i)*4)=flat ((es.drop i).map entA)
 new:flat ((es.take i++e::es.drop i).map entA)=flat ((es.take i).map entA)++flat [entA e]++flat ((es.drop i).map entA)
 nl:(es.take i++e::es.drop i).length=es.length+1
 src:∀o ver L c'(S:List AObj),(flat (es.map entA)++pad).length=(cap+1)*4->es.length<=cap+1->S[o]?=some (.cells ver 100 (flat (es.map entA)++pad))->SrcA S 4 (.os o ver (0+i*4) L c') L (es.length-i) (flat ((es.drop i).map entA))
theorem insB(es:List EntV)(e:EntV)(i cap:Nat)(pad:List AV)(hi:i<es.length):InsB es e i cap pad:=by
 have ht4:(flat ((es.take i).map entA)).length=i*4:=by rw[qeq,Zd,Zn Om]
 have hd4:(flat ((es.drop i).map entA)).length=(es.length-i)*4:=by rw[qeq,Ze]
 have cj:flat (es.map entA)++pad=flat ((es.take i).map entA)++(flat ((es.drop i).map entA)++pad):=by
  rw[<-Qv,<-qji,Qi]
 have hdrop:((flat (es.map entA)++pad).drop (0+i*4)).take ((es.length-i)*4)=flat ((es.drop i).map entA):=by rw[Nat.zero_add,cj,<-ht4,Zy,<-hd4,Zi]
 refine⟨ht4,hd4,cj,by rw[cj,<-ht4,Zi],hdrop,?_,So,λo ver L c' S e3 e5 hS=>?_⟩
 .rw[qji]
  simp[flat]
 .have:=SrcA.os (st:=S) (sz:=4) o ver (0+i*4) L c' (es.length-i) _ _ hS (by rw[e3];omega) (by rw[hdrop];exact qdw λ_=>rfl)
  rw[hdrop]at this;exact this
set_option maxHeartbeats 4000000 in
theorem zm4(es:List EntV)(e:EntV)(i:Nat)(hi:i<es.length)(hl:es.length<1000000)(st:List AObj)(o ver cap:Nat)(pad:List AV)(e2:st[o]?=some (.cells ver 100 (flat (es.map entA)++pad)))(e3:(flat (es.map entA)++pad).length=(cap+1)*4)(e5:es.length+1<=cap+1)(e6:cap+1<=maxLen):
  qr E 226 [.os o ver 0 es.length (cap+1),Iv i,.sl 4 [entA e] none] st λr st'=>OwnR 4 100 ((es.take i++e::es.drop i).map entA) st (.os o ver 0 es.length (cap+1)) r st':=by
 have hI:=insB es e i cap pad hi;have d8:=lt_of_getElem? e2;have hfl1:(flat [entA e]).length=4:=rfl;have ht4:=hI.t4;have hd4:=hI.d4;have hi1:(if cap+1=i then 0 else 0+i*4)=0+i*4:=if_neg Om;have ld:(if cap+1=i+1 then 0 else 0+(i+1)*4)=(i+1)*4:=by rw[if_neg Om];omega
 obtain⟨B1,bc⟩:∃B1,(flat ((es.drop i).map entA)++pad).drop 4=B1:=⟨_,rfl⟩;obtain⟨A1,gw⟩:∃A1,(flat ((es.drop i).map entA)++pad).take 4=A1:=⟨_,rfl⟩
 have hA1l:A1.length=4:=by
  rw[<-gw,Zd,Qe,hd4];omega
 obtain⟨X1,hX1⟩:∃X1,flat ((es.take i).map entA)++A1++flat ((es.drop i).map entA)++B1.drop ((es.length-i)*4)=X1:=⟨_,rfl⟩
 have rt:z6 (flat (es.map entA)++pad) ((i+1)*4) (flat ((es.drop i).map entA))=X1:=by
  have e1:flat (es.map entA)++pad=(flat ((es.take i).map entA)++A1)++B1:=by rw[hI.split,Qv,<-gw,<-bc,Qi]
  rw[e1,qfp _ _ _ (by rw[Qe,ht4,hA1l];omega),hd4,hX1]
 have pn:z6 X1 (0+i*4) (flat [entA e])=flat ((es.take i++e::es.drop i).map entA)++B1.drop ((es.length-i)*4):=by
  have e1:X1=flat ((es.take i).map entA)++(A1++(flat ((es.drop i).map entA)++B1.drop ((es.length-i)*4))):=by rw[<-hX1];simp
  rw[e1,qfp _ _ _ (by rw[ht4];omega),hfl1,List.drop_append_of_le_length Om,Ql (by omega:A1.length<=4),hI.new];simp
 have hsl1:X1.length=(cap+1)*4:=by
  rw[<-rt,qkn (by rw[e3,hd4];omega),e3]
 have hsl2:(flat ((es.take i++e::es.drop i).map entA)++B1.drop ((es.length-i)*4)).length=(cap+1)*4:=by
  rw[<-pn,qkn (by rw[hsl1,hfl1];omega),hsl1]
 have ck:=hI.src o ver (es.length+1-i) (cap+1-i) st e3 Om e2;have pk:=hI.nl;generalize hXn:flat ((es.take i++e::es.drop i).map entA)++B1.drop ((es.length-i)*4)=Xn at pn hsl2;clear hX1 bc gw hI ht4 hd4;generalize hdz:flat ((es.drop i).map entA)=dz at rt ck;refine qs Tryz.func226 rfl (Qn rfl) ?_;rw[Qp];generalize flat (es.map entA)++pad=X0 at e2 e3 rt;repeat' (first|apply qq|apply qh|apply qj|apply ql|apply qi)
 refine jb (o:=o) (ver:=ver) (off:=0) (len:=es.length) (cap:=cap+1) (sz:=4) (i:=i) (j:=es.length) (m:=cap+1) rfl rfl rfl ?_ ?_ ?_ Om Om Om ?_
 .exact⟨_,rfl⟩
 .exact⟨rfl,rfl⟩
 .exact rfl
 repeat' (first|(apply jp (n:=1);(iterate 4 exact rfl))|apply qq|apply qh|apply qj|apply ql|apply qi|(apply qv;(iterate 3 exact rfl))|(apply qe;exact rfl;apply v8;exact cAo)|(apply jp;(iterate 4 exact rfl))|(apply zo;exact rfl;exact rfl;exact q8 Om Om)|apply qz)
 refine qvp rfl rfl rfl ?_;repeat' (first|apply qq|apply qh|apply qj|apply ql|(apply qv;(iterate 3 exact rfl))|(apply qe;exact rfl;apply v8;exact cAo)|(apply zo;exact rfl;exact rfl;exact q8 Om Om)|apply qz)
 refine jb (o:=o) (ver:=ver) (off:=0) (len:=es.length) (cap:=cap+1) (sz:=4) (i:=0) (j:=es.length+1) (m:=cap+1) rfl rfl rfl ?_ ?_ ?_ Om Om Om ?_
 .exact rfl
 .exact⟨_,rfl⟩
 .exact rfl
 repeat' (first|apply qq|apply qh|apply qj|apply ql|apply qi|(apply zo;exact rfl;exact rfl;exact q8 Om Om))
 refine jb (o:=o) (ver:=ver) (off:=0) (len:=es.length+1) (cap:=cap+1) (sz:=4) (i:=i+1) (j:=es.length+1) (m:=cap+1) rfl rfl rfl ?_ ?_ ?_ Om Om Om ?_
 .exact⟨_,rfl⟩
 .exact⟨rfl,rfl⟩
 .exact rfl
 rw[ld];repeat' (first|(apply q39;first|apply qq|apply q6|apply qh|(apply qe;exact rfl;apply vo;exact cAo)|(apply qe;exact rfl;apply v8;exact cAo)|(apply qe;exact rfl;apply qit;exact cRa)|(apply qe;exact rfl;apply qis;exact cRa)|(apply qe;exact rfl;apply cd_n<;>intro h)|(apply qe;exact rfl;apply cd_t;exact cRa)|(apply qe;exact rfl;apply cd_f;exact cRa)|(apply qe;exact rfl;apply cd_d<;>intro h)|(apply qe;exact rfl;apply cd_s<;>intro h)|apply qz|apply jd|apply qw)|(apply qwf;first|(apply qx;(iterate 4 exact rfl))|(apply qaw;(iterate 4 exact rfl)))|(apply q9s;first|(apply xf;exact cAo)|(apply wc;exact cAo)|(apply wg;exact cAo)|(apply xu;exact cAo)|(apply qqy;exact cRa)|(apply qaj;exact cRa)|(apply qbp;exact cRa)|(apply qon;exact cRa)|(apply qhr<;>intro h)|(apply qaa;exact cRa)|(apply qet;exact cRa)|(apply qa8;exact cRa)|(apply xq;exact cRa)|(apply jn<;>intro h)|(apply qgd<;>intro h))|(apply q9r;first|apply qjf|(apply qyg;(iterate 4 exact rfl))|(apply q3s;exact rfl;exact rfl;exact q8 Om Om)|(apply qyi;(iterate 4 exact rfl);exact cAs;exact cAs)|(apply qmz;(iterate 5 exact rfl))|(apply qje;exact rfl;exact rfl;exact cOs)|(apply qj5;(iterate 3 exact rfl))|(apply qmy;(iterate 5 exact rfl))|(apply qhl;(iterate 4 exact rfl))|(apply qlx;(iterate 3 exact rfl))|(apply q3r;(iterate 3 exact rfl);exact cAs)|(apply qyh;exact rfl;exact rfl)|(apply qt5;exact rfl;exact rfl)|(apply qt7;(iterate 3 exact rfl);omega)|(apply qqe;(iterate 3 exact rfl))|apply qgq|apply qjd|(apply qvw;exact rfl;exact rfl;exact q8 Om Om)|(apply q9e;(iterate 3 exact rfl))|(apply qr9;(iterate 3 exact rfl);exact cAs)|(apply qr8;(iterate 3 exact rfl);exact cAs)|(apply qn8;exact rfl;exact rfl))|(apply qwe;first|(apply qv;(iterate 3 exact rfl))|(apply jo;(iterate 3 exact rfl))|(apply jy;exact rfl;exact rfl;exact cOs)|(apply zo;exact rfl;exact rfl;exact q8 Om Om)|(apply ww;exact rfl;exact rfl;exact q8 Om Om)|(apply xj;exact rfl;exact rfl)|(apply wd;exact rfl;exact rfl)|(apply qbg;exact rfl;exact rfl)|(apply qd9;exact rfl;exact rfl)|(apply qbi;(iterate 3 exact rfl))|(apply qf3;(iterate 3 exact rfl))|(apply qdy;exact rfl;exact rfl;(first|exact jg _|exact rfl);first|exact jg _|exact rfl)|(apply qj3;exact rfl;exact rfl;(first|exact jg _|exact rfl);first|exact jg _|exact rfl)|(apply qzt;exact rfl;exact rfl;(first|exact jg _|exact rfl);first|exact jg _|exact rfl)|(apply qe6;(iterate 3 exact rfl))|(apply qhi;(iterate 3 exact rfl)))|(apply q0j;first|(apply jq;(iterate 3 exact rfl))|(apply qjt;(iterate 5 exact rfl))|(apply jr;(iterate 5 exact rfl)))|(apply q0k;first|(apply qn7;exact rfl)|(apply ja;exact rfl)|(apply qhg;exact rfl))|(apply qwg;first|(apply qbt;(iterate 3 exact rfl);exact cAs)|(apply qgn;(iterate 3 exact rfl);exact cAs)|(apply qgo;(iterate 4 exact rfl);exact cAs;exact cAs)|(apply qh8;(iterate 4 exact rfl);(first|assumption|omega|exact Nat.succ_le_succ (Nat.zero_le _)|(simp;omega));exact rfl))|(apply q0i;first|(apply zu;(iterate 3 exact rfl))|(apply jp;(iterate 4 exact rfl)))|(apply qnn;first|(apply zl;(iterate 3 exact rfl))|(apply yf;(iterate 4 exact rfl)))|(apply qwh;first|(apply qe7;(iterate 11 exact rfl))|(apply jc;(iterate 11 exact rfl)))|(apply q4a;first|apply qj|apply ql|apply qi|(apply zg;exact rfl;exact rfl)|(apply qk;exact rfl;apply w7;exact cAo)|(apply qk;exact rfl;apply wt;exact cAo)|(apply qk;exact rfl;apply qi4;exact cRa)|(apply qk;exact rfl;apply qfi;exact cRa)|(apply qk;exact rfl;apply pk_t;exact cRa)|(apply qk;exact rfl;apply pk_f;exact cRa)|(apply vq;exact rfl;exact rfl)|apply qf2|(apply j7;exact rfl;exact rfl)|(apply qb1;(iterate 4 exact rfl))|(apply qj4;(iterate 3 exact rfl))|(apply wm;(iterate 3 exact rfl);exact cAs)|(apply yb;(iterate 3 exact rfl))|(apply we;(iterate 9 exact rfl))|(apply wv;exact rfl;exact rfl)|(apply qio;(iterate 4 exact rfl);(first|assumption|omega|decide);exact rfl)|(apply qch;(iterate 4 exact rfl);first|assumption|omega|decide)))
 refine q17 (xs:=[entA e]) (o:=o) (ver:=ver) rfl rfl e2 (by simp[flat,AV.cells]) q52 ?_;repeat' (first|apply qq|apply qj|(apply ja;exact rfl)|(apply qe;exact rfl;apply qit;exact cRa))
 refine qgr [(0,.os o ver 0 (es.length+1) (cap+1)),(1,Iv i),(2,.sl 4 [entA e] none),(7,Iv 1)] st [] ⟨rfl,rfl,rfl,rfl,trivial⟩ rfl rfl λt=>?_;refine qyl (λs=>StA [(0,.os o ver 0 (es.length+1) (cap+1)),(1,Iv i),(2,.sl 4 [entA e] none)] (st.set o (.cells ver 100 X1)) [] s) ?_ ?_
 .refine qlz rfl rfl ?_
  (apply qah 0;exact rfl;kernel_rfl;kernel_rfl;kernel_rfl;exact rfl;exact qbc)
  (apply qah 1;exact rfl;kernel_rfl;kernel_rfl;kernel_rfl;exact rfl;exact qbc)
  (apply qah 2;exact rfl;kernel_rfl;kernel_rfl;kernel_rfl;exact rfl;exact qbc)
  (apply qah 5;exact rfl;kernel_rfl;kernel_rfl;kernel_rfl;exact rfl;exact qbc)
  (apply qah 6;exact rfl;kernel_rfl;kernel_rfl;kernel_rfl;exact rfl;exact qbc)
  refine xz [3,7] Kr rfl ⟨⟨_,rfl,?_⟩,⟨_,rfl,?_⟩,trivial⟩
  ·(apply zo;exact rfl;exact rfl;exact q8 Om Om)
   apply qj;refine xz [4,7] Kr rfl ⟨⟨_,rfl,?_⟩,⟨_,rfl,?_⟩,trivial⟩
   ·(refine jb (o:=o) (ver:=ver) (off:=0) (len:=es.length+1) (cap:=cap+1) (sz:=4) (i:=i+1) (j:=es.length+1) (m:=cap+1) rfl rfl rfl ?_ ?_ ?_ Om Om Om ?_;exact⟨_,rfl⟩;exact⟨rfl,rfl⟩;exact rfl;rw[ld])
    apply qj;refine xz [7] Kr rfl ⟨⟨_,rfl,?_⟩,trivial⟩
    (refine jb (o:=o) (ver:=ver) (off:=0) (len:=es.length+1) (cap:=cap+1) (sz:=4) (i:=i) (j:=es.length+1) (m:=cap+1) rfl rfl rfl ?_ ?_ ?_ Om Om Om ?_;exact⟨_,rfl⟩;exact⟨rfl,rfl⟩;exact rfl;rw[hi1])
    apply qj;refine xz [8] Kr rfl ⟨⟨_,rfl,?_⟩,trivial⟩
    (refine qbs (o:=o) (ver:=ver) (off:=(i+1)*4) (sz:=4) (bytes:=56) (m:=es.length-i) rfl rfl e2 ck ?_ rfl ⟨⟨_,_,rfl,rfl,rfl,rfl,rfl⟩⟩ ?_ ?_;(show min _ _=_;omega);(rw[e3];omega);rw[rt])
    apply qj;refine qeb Kr ?_;exact z7 ⟨rfl,rfl,rfl,trivial⟩
   ·(refine jb (o:=o) (ver:=ver) (off:=0) (len:=es.length+1) (cap:=cap+1) (sz:=4) (i:=i) (j:=es.length+1) (m:=cap+1) rfl rfl rfl ?_ ?_ ?_ Om Om Om ?_;exact⟨_,rfl⟩;exact⟨rfl,rfl⟩;exact rfl;rw[hi1])
    apply qj;refine xz [4] Kr rfl ⟨⟨_,rfl,?_⟩,trivial⟩
    (refine jb (o:=o) (ver:=ver) (off:=0) (len:=es.length+1) (cap:=cap+1) (sz:=4) (i:=i+1) (j:=es.length+1) (m:=cap+1) rfl rfl rfl ?_ ?_ ?_ Om Om Om ?_;exact⟨_,rfl⟩;exact⟨rfl,rfl⟩;exact rfl;rw[ld])
    apply qj;refine xz [8] Kr rfl ⟨⟨_,rfl,?_⟩,trivial⟩
    (refine qbs (o:=o) (ver:=ver) (off:=(i+1)*4) (sz:=4) (bytes:=56) (m:=es.length-i) rfl rfl e2 ck ?_ rfl ⟨⟨_,_,rfl,rfl,rfl,rfl,rfl⟩⟩ ?_ ?_;(show min _ _=_;omega);(rw[e3];omega);rw[rt])
    apply qj;refine qeb Kr ?_;exact z7 ⟨rfl,rfl,rfl,trivial⟩
  ·(refine jb (o:=o) (ver:=ver) (off:=0) (len:=es.length+1) (cap:=cap+1) (sz:=4) (i:=i) (j:=es.length+1) (m:=cap+1) rfl rfl rfl ?_ ?_ ?_ Om Om Om ?_;exact⟨_,rfl⟩;exact⟨rfl,rfl⟩;exact rfl;rw[hi1])
   apply qj;refine xz [3] Kr rfl ⟨⟨_,rfl,?_⟩,trivial⟩
   (apply zo;exact rfl;exact rfl;exact q8 Om Om)
   apply qj;refine xz [4] Kr rfl ⟨⟨_,rfl,?_⟩,trivial⟩
   (refine jb (o:=o) (ver:=ver) (off:=0) (len:=es.length+1) (cap:=cap+1) (sz:=4) (i:=i+1) (j:=es.length+1) (m:=cap+1) rfl rfl rfl ?_ ?_ ?_ Om Om Om ?_;exact⟨_,rfl⟩;exact⟨rfl,rfl⟩;exact rfl;rw[ld])
   apply qj;refine xz [8] Kr rfl ⟨⟨_,rfl,?_⟩,trivial⟩
   (refine qbs (o:=o) (ver:=ver) (off:=(i+1)*4) (sz:=4) (bytes:=56) (m:=es.length-i) rfl rfl e2 ck ?_ rfl ⟨⟨_,_,rfl,rfl,rfl,rfl,rfl⟩⟩ ?_ ?_;(show min _ _=_;omega);(rw[e3];omega);rw[rt])
   apply qj;refine qeb Kr ?_;exact z7 ⟨rfl,rfl,rfl,trivial⟩
 .rintro _ ⟨t,rfl⟩
  have ft:(st.set o (AObj.cells ver 100 X1))[o]?=some (.cells ver 100 X1):=kh e2;repeat' (first|apply qq|apply qh|apply ql)
  refine jb (o:=o) (ver:=ver) (off:=0) (len:=es.length+1) (cap:=cap+1) (sz:=4) (i:=i) (j:=es.length+1) (m:=cap+1) rfl rfl rfl ?_ ?_ ?_ Om Om Om ?_
  .exact⟨_,rfl⟩
  .exact⟨rfl,rfl⟩
  .exact rfl
  rw[hi1];repeat' (first|apply ql)
  refine qbs (o:=o) (ver:=ver) (off:=0+i*4) (sz:=4) (bytes:=56) (L:=1) (m:=1) rfl rfl ft (.sl [entA e] none rfl) ?_ rfl ⟨⟨_,_,rfl,rfl,rfl,rfl,rfl⟩⟩ ?_ ?_
  .show min _ _=_
   omega
  .rw[hsl1]
   omega
  rw[pn];repeat' (first|apply qq|apply qh|apply qj|apply ql|apply qi|apply qw)
  refine qo rfl (q7 rfl) ?_
  show OwnR 4 100 _ st _ (.os o ver 0 (es.length+1) (cap+1)) ((st.set o _).set o (.cells ver 100 Xn))
  rw[Zz,<-hXn];rw[<-hXn]at hsl2;exact⟨.inr ⟨o,ver,cap,_,by rw[Qg,pk],kh e2,hsl2,qk4 _,by rw[Qg,pk];omega,e6⟩,Sx,λj hj b9=>Qk λe=>b9 (by rw[e];rfl),λo' e7=>.inr e7⟩
set_option maxHeartbeats 4000000 in
theorem zm3(es:List EntV)(e:EntV)(i:Nat)(hi:i<es.length)(hl:es.length<1000000)(st:List AObj)(o ver cap:Nat)(pad:List AV)(e2:st[o]?=some (.cells ver 100 (flat (es.map entA)++pad)))(e3:(flat (es.map entA)++pad).length=(cap+1)*4)(e5:es.length=cap+1)(e6:cap+1<=maxLen):
  qr E 226 [.os o ver 0 es.length (cap+1),Iv i,.sl 4 [entA e] none] st λr st'=>OwnR 4 100 ((es.take i++e::es.drop i).map entA) st (.os o ver 0 es.length (cap+1)) r st':=by
 have hI:=insB es e i cap pad hi;have d8:=lt_of_getElem? e2;have hfl1:(flat [entA e]).length=4:=rfl;have ht4:=hI.t4;have hd4:=hI.d4;have htake:=hI.take;have hi1:(if cap+1=i then 0 else 0+i*4)=0+i*4:=if_neg Om;have ck:=λS=>hI.src o ver (es.length-i) (cap+1-i) S e3 Om;have pk:=hI.nl;have s7:=hI.new;have hk9:Iv ((es.length:Int)+1-i)=Iv ((es.length+1-i:Nat):Int):=congrArg (λz:Int=>Iv z) Om;have hkk:i+(es.length+1-i)=es.length+1:=Om
 generalize flat ((es.drop i).map entA)=dz at ck hd4 s7;refine qs Tryz.func226 rfl (Qn rfl) ?_;rw[Qp];generalize flat (es.map entA)++pad=X0 at e2 e3 htake ck;repeat' (first|apply qq|apply qh|apply qj|apply ql|apply qi)
 refine jb (o:=o) (ver:=ver) (off:=0) (len:=es.length) (cap:=cap+1) (sz:=4) (i:=i) (j:=es.length) (m:=cap+1) rfl rfl rfl ?_ ?_ ?_ Om Om Om ?_
 .exact⟨_,rfl⟩
 .exact⟨rfl,rfl⟩
 .exact rfl
 repeat' (first|(apply jp (n:=1);(iterate 4 exact rfl))|apply qq|apply qh|apply qj|apply ql|apply qi|(apply qv;(iterate 3 exact rfl))|(apply qe;exact rfl;apply v8;exact cAo)|(apply jp;(iterate 4 exact rfl))|(apply zo;exact rfl;exact rfl;exact q8 Om Om)|apply qz)
 refine qvp rfl rfl rfl ?_;refine qvt [(0,.os o ver 0 es.length (cap+1)),(1,Iv i),(2,.sl 4 [entA e] none),(7,Iv 1),(8,Iv es.length),(28,Iv ((es.length:Int)+1)),(30,Iv ((cap+1:Nat):Int))] st [] ⟨rfl,rfl,rfl,rfl,rfl,rfl,rfl,trivial⟩ rfl rfl λt=>?_;repeat' (first|apply qq|apply qh|apply qj|apply ql|(apply qv;(iterate 3 exact rfl))|(apply qe;exact rfl;apply vo;exact cAo))
 refine jb (o:=o) (ver:=ver) (off:=0) (len:=es.length) (cap:=cap+1) (sz:=4) (i:=0) (j:=i) (m:=cap+1) rfl rfl rfl ?_ ?_ ?_ Om Om Om ?_
 .exact rfl
 .exact⟨_,rfl⟩
 .exact rfl
 repeat' (first|apply ql|(apply zo;exact rfl;exact rfl;exact q8 Om Om)|(apply ww;exact rfl;exact rfl;exact q8 Om Om))
 refine qt3 (sz:=4) (bytes:=56) (o:=o) (ver:=ver) (n:=i) (cap:=cap+1) (k:=es.length+1-i) (cs:=X0) rfl hk9 e2 rfl rfl ⟨⟨_,_,rfl,rfl,rfl,rfl,rfl⟩⟩ Om Om Om (by rw[e3];omega) (by simp only[maxLen];omega) Om λcap' zs z1 z2 z3=>?_;rw[hkk,htake];refine qvt [(0,.os o ver 0 es.length (cap+1)),(1,Iv i),(2,.sl 4 [entA e] none),(7,Iv 1),(40,.os st.length 0 0 (es.length+1) cap')] (st++[.cells 0 100 (flat ((es.take i).map entA)++zs)]) [] ⟨rfl,rfl,rfl,rfl,rfl,trivial⟩ rfl rfl λt=>?_;obtain⟨cap',rfl⟩:∃c,cap'=c+1:=⟨cap'-1,Om⟩;have hi3:(if cap'+1=i then 0 else 0+i*4)=0+i*4:=if_neg Om;have hi4:(if cap'+1=i+1 then 0 else 0+(i+1)*4)=(i+1)*4:=by rw[if_neg Om];omega
 have rt:z6 (flat ((es.take i).map entA)++zs) (0+i*4) (flat [entA e])=(flat ((es.take i).map entA)++flat [entA e])++zs.drop 4:=qfp _ _ _ (by rw[ht4];omega)
 have pn:z6 ((flat ((es.take i).map entA)++flat [entA e])++zs.drop 4) ((i+1)*4) dz=flat ((es.take i++e::es.drop i).map entA)++(zs.drop 4).drop dz.length:=by
  rw[qfp _ _ _ (by rw[Qe,ht4,hfl1];omega),s7]
 have bt:((flat ((es.take i).map entA)++flat [entA e])++zs.drop 4).length=(cap'+1)*4:=by
  simp only[Qe,Ze,ht4,hfl1,z1];omega
 have mt:(flat ((es.take i++e::es.drop i).map entA)++(zs.drop 4).drop dz.length).length=(cap'+1)*4:=by
  rw[<-pn,qkn (by rw[bt,hd4];omega),bt]
 have hl0:(flat ((es.take i).map entA)++zs).length=(cap'+1)*4:=by
  rw[Qe,ht4,z1];omega
 repeat' (first|apply qq|apply qh|apply qj|apply ql|apply qi)
 refine jb (o:=st.length) (ver:=0) (off:=0) (len:=es.length+1) (cap:=cap'+1) (sz:=4) (i:=i) (j:=es.length+1) (m:=cap'+1) rfl rfl rfl ?_ ?_ ?_ Om Om Om ?_
 .exact⟨_,rfl⟩
 .exact⟨rfl,rfl⟩
 .exact rfl
 rw[hi3];repeat' (first|apply ql)
 refine qbs (o:=st.length) (ver:=0) (off:=0+i*4) (sz:=4) (bytes:=56) (L:=1) (m:=1) rfl rfl yc (.sl [entA e] none rfl) ?_ rfl ⟨⟨_,_,rfl,rfl,rfl,rfl,rfl⟩⟩ ?_ ?_
 .show min _ _=_
  omega
 .rw[hl0]
  omega
 rw[rt];generalize hX1:(flat ((es.take i).map entA)++flat [entA e])++zs.drop 4=X1 at pn bt;have hbo:(st++[AObj.cells 0 100 (flat ((es.take i).map entA)++zs)])[st.length]?=some (.cells 0 100 (flat ((es.take i).map entA)++zs)):=yc;have hS1n:((st++[AObj.cells 0 100 (flat ((es.take i).map entA)++zs)]).set st.length (.cells 0 100 X1))[st.length]?=some (.cells 0 100 X1):=kh hbo
 have hS1o:((st++[AObj.cells 0 100 (flat ((es.take i).map entA)++zs)]).set st.length (.cells 0 100 X1))[o]?=some (.cells ver 100 X0):=by
  rw[Qk Om,Qx d8];exact e2
 have hS1j:∀j,j<st.length->((st++[AObj.cells 0 100 (flat ((es.take i).map entA)++zs)]).set st.length (.cells 0 100 X1))[j]?=st[j]?:=λj hj=>by
  rw[Qk Om,Qx hj]
 have hS1l:((st++[AObj.cells 0 100 (flat ((es.take i).map entA)++zs)]).set st.length (.cells 0 100 X1)).length=st.length+1:=Sx
 repeat' (first|apply qq|apply qj)
 refine qgr [(0,.os o ver 0 es.length (cap+1)),(1,Iv i),(7,Iv 1),(9,.os st.length 0 0 (es.length+1) (cap'+1))] ((st++[AObj.cells 0 100 (flat ((es.take i).map entA)++zs)]).set st.length (.cells 0 100 X1)) [] ⟨rfl,rfl,rfl,rfl,trivial⟩ rfl rfl λt=>?_;generalize(st++[AObj.cells 0 100 (flat ((es.take i).map entA)++zs)]).set st.length (.cells 0 100 X1)=S1 at hS1n hS1o hS1j hS1l;refine qyl (λs=>StA [(9,.os st.length 0 0 (es.length+1) (cap'+1))] (S1.set st.length (.cells 0 100 (flat ((es.take i++e::es.drop i).map entA)++(zs.drop 4).drop dz.length))) [] s) ?_ ?_
 .refine qlz rfl rfl ?_
  (apply qah 0;exact rfl;kernel_rfl;kernel_rfl;kernel_rfl;exact rfl;exact qbc)
  (apply qah 1;exact rfl;kernel_rfl;kernel_rfl;kernel_rfl;exact rfl;exact qbc)
  (apply qah 2;exact rfl;kernel_rfl;kernel_rfl;kernel_rfl;exact rfl;exact qbc)
  (apply qah 5;exact rfl;kernel_rfl;kernel_rfl;kernel_rfl;exact rfl;exact qbc)
  (apply qah 6;exact rfl;kernel_rfl;kernel_rfl;kernel_rfl;exact rfl;exact qbc)
  refine xz [3,7] Kr rfl ⟨⟨_,rfl,?_⟩,⟨_,rfl,?_⟩,trivial⟩
  ·(apply zo;exact rfl;exact rfl;exact q8 Om Om)
   apply qj;refine xz [4,7] Kr rfl ⟨⟨_,rfl,?_⟩,⟨_,rfl,?_⟩,trivial⟩
   ·(refine jb (o:=st.length) (ver:=0) (off:=0) (len:=es.length+1) (cap:=cap'+1) (sz:=4) (i:=i+1) (j:=es.length+1) (m:=cap'+1) rfl rfl rfl ?_ ?_ ?_ Om Om Om ?_;exact⟨_,rfl⟩;exact⟨rfl,rfl⟩;exact rfl;rw[hi4])
    apply qj;refine xz [7] Kr rfl ⟨⟨_,rfl,?_⟩,trivial⟩
    (refine jb (o:=o) (ver:=ver) (off:=0) (len:=es.length) (cap:=cap+1) (sz:=4) (i:=i) (j:=es.length) (m:=cap+1) rfl rfl rfl ?_ ?_ ?_ Om Om Om ?_;exact⟨_,rfl⟩;exact⟨rfl,rfl⟩;exact rfl;rw[hi1])
    apply qj;refine xz [8] Kr rfl ⟨⟨_,rfl,?_⟩,trivial⟩
    (refine qbs (o:=st.length) (ver:=0) (off:=(i+1)*4) (sz:=4) (bytes:=56) (m:=es.length-i) rfl rfl hS1n (ck S1 hS1o) ?_ rfl ⟨⟨_,_,rfl,rfl,rfl,rfl,rfl⟩⟩ ?_ ?_;(show min _ _=_;omega);(rw[bt];omega);rw[pn])
    apply qj;refine qeb Kr ?_;exact z7 ⟨rfl,trivial⟩
   ·(refine jb (o:=o) (ver:=ver) (off:=0) (len:=es.length) (cap:=cap+1) (sz:=4) (i:=i) (j:=es.length) (m:=cap+1) rfl rfl rfl ?_ ?_ ?_ Om Om Om ?_;exact⟨_,rfl⟩;exact⟨rfl,rfl⟩;exact rfl;rw[hi1])
    apply qj;refine xz [4] Kr rfl ⟨⟨_,rfl,?_⟩,trivial⟩
    (refine jb (o:=st.length) (ver:=0) (off:=0) (len:=es.length+1) (cap:=cap'+1) (sz:=4) (i:=i+1) (j:=es.length+1) (m:=cap'+1) rfl rfl rfl ?_ ?_ ?_ Om Om Om ?_;exact⟨_,rfl⟩;exact⟨rfl,rfl⟩;exact rfl;rw[hi4])
    apply qj;refine xz [8] Kr rfl ⟨⟨_,rfl,?_⟩,trivial⟩
    (refine qbs (o:=st.length) (ver:=0) (off:=(i+1)*4) (sz:=4) (bytes:=56) (m:=es.length-i) rfl rfl hS1n (ck S1 hS1o) ?_ rfl ⟨⟨_,_,rfl,rfl,rfl,rfl,rfl⟩⟩ ?_ ?_;(show min _ _=_;omega);(rw[bt];omega);rw[pn])
    apply qj;refine qeb Kr ?_;exact z7 ⟨rfl,trivial⟩
  ·(refine jb (o:=o) (ver:=ver) (off:=0) (len:=es.length) (cap:=cap+1) (sz:=4) (i:=i) (j:=es.length) (m:=cap+1) rfl rfl rfl ?_ ?_ ?_ Om Om Om ?_;exact⟨_,rfl⟩;exact⟨rfl,rfl⟩;exact rfl;rw[hi1])
   apply qj;refine xz [3] Kr rfl ⟨⟨_,rfl,?_⟩,trivial⟩
   (apply zo;exact rfl;exact rfl;exact q8 Om Om)
   apply qj;refine xz [4] Kr rfl ⟨⟨_,rfl,?_⟩,trivial⟩
   (refine jb (o:=st.length) (ver:=0) (off:=0) (len:=es.length+1) (cap:=cap'+1) (sz:=4) (i:=i+1) (j:=es.length+1) (m:=cap'+1) rfl rfl rfl ?_ ?_ ?_ Om Om Om ?_;exact⟨_,rfl⟩;exact⟨rfl,rfl⟩;exact rfl;rw[hi4])
   apply qj;refine xz [8] Kr rfl ⟨⟨_,rfl,?_⟩,trivial⟩
   (refine qbs (o:=st.length) (ver:=0) (off:=(i+1)*4) (sz:=4) (bytes:=56) (m:=es.length-i) rfl rfl hS1n (ck S1 hS1o) ?_ rfl ⟨⟨_,_,rfl,rfl,rfl,rfl,rfl⟩⟩ ?_ ?_;(show min _ _=_;omega);(rw[bt];omega);rw[pn])
   apply qj;refine qeb Kr ?_;exact z7 ⟨rfl,trivial⟩
 .rintro _ ⟨t,rfl⟩
  repeat' (first|apply qq|apply qh|apply qj|apply ql|apply qi|apply qw)
  refine qo rfl (q7 rfl) ?_
  show OwnR 4 100 _ st _ (.os st.length 0 0 (es.length+1) (cap'+1)) (S1.set st.length (.cells 0 100 (flat ((es.take i++e::es.drop i).map entA)++(zs.drop 4).drop dz.length)))
  refine⟨.inr ⟨st.length,0,cap',_,by rw[Qg,pk],kh hS1n,mt,qk4 _,by rw[Qg,pk];omega,z3⟩,by rw[List.length_set,hS1l];omega,λj hj _=>?_,λo' e7=>?_⟩
  .rw[Qk Om]
   exact hS1j j hj
  .simp only[zt,Za]at e7
   left;omega
theorem zgp(es:List EntV)(e:EntV)(i:Nat)(hi:i<=es.length)(hl:es.length<1000000)(st:List AObj)(c:AV)(hc:OwnS st 4 100 (es.map entA) c):qr E 226 [c,Iv i,.sl 4 [entA e] none] st λr st'=>OwnR 4 100 ((es.take i++e::es.drop i).map entA) st c r st':=by
 have o0:(es.map entA).length=es.length:=Sx
 have hap:i=es.length->(es.take i++e::es.drop i).map entA=es.map entA++[entA e]:=λh=>by subst h;simp
 rcases hc with⟨h0,hnr⟩|⟨o,ver,cap,pad,rfl,e2,e3,e4,e5,e6⟩
 .have hes:es=[]:=by simpa using h0
  subst hes;obtain rfl:i=0:=by simpa using hi
  rw[hap rfl];exact zm1 e st c hnr
 .rw[o0]at e5⊢
  by_cases hin:i=es.length
  .rw[hap hin]
   subst hin;exact zm2 es e hl st o ver cap pad e2 e3 e5 e6
  .by_cases p6:es.length+1<=cap+1
   .exact zm4 es e i Om hl st o ver cap pad e2 e3 p6 e6
   .exact zm3 es e i Om hl st o ver cap pad e2 e3 Om e6
end Go.Proofs.YtihlchbgjdkmpaaGreatDoor
namespace Go.Pl
open Go Go.Proofs
def qh0(l:qu)(i:Nat)(x:zh):qu:=match l.ents[i]?with
 |some e=>⟨l.ents.set i ⟨x,e.id⟩,l.next,l.many⟩
 |none=>l
def xg(l:qu)(id:Int)(fs:List Fld):ErrV×qu:=if atF l id<0 then(.num 7,l)else if z4 fs=.no then(.no,qh0 l (atF l id).toNat (yn fs))else(z4 fs,l)
def delL(l:qu)(i:Nat):qu:=⟨l.ents.take i++l.ents.drop (i+1),l.next,l.many-1⟩
def delF(l:qu)(id:Int):ErrV×qu:=if atF l id<0 then(.num 7,l)else(.no,delL l (atF l id).toNat)
def insL(l:qu)(k:Nat)(x:zh):qu:=⟨l.ents.take k++⟨x,l.next⟩::l.ents.drop k,l.next+1,l.many+1⟩
def insF(l:qu)(id:Int)(fs:List Fld):Int×ErrV×qu:=
 if atF l id<0∧id≠0 then(0,.num 7,l)else if z4 fs=.no then(if 400<=l.many then(0,.num 11,l)else(l.next,.no,insL l (atF l id+1).toNat (yn fs)))else(0,z4 fs,l)
structure LB (n:Nat) (l:qu):Prop where
 small:n<900000
 len:l.ents.length<=n
 nx0:1<=l.next
 nx1:l.next<=n+1
 mn0: -(n:Int)<=l.many
 mn1:l.many<=n
theorem zj5{n:Nat}{l:qu}(h:LB n l)(hs:n+1<900000)(id:Int)(fs:List Fld):LB (n+1) (xg l id fs).2:=by
 have h1:=h.len;have h2:=h.nx0;have h3:=h.nx1;have h4:=h.mn0;have h5:=h.mn1;unfold xg;split
 .exact⟨hs,by simp only;omega,h2,by simp only;omega,by simp only;omega,by simp only;omega⟩
 .split
  .unfold qh0
   split
   .exact⟨hs,So,h2,by simp only;omega,by simp only;omega,by simp only;omega⟩
   .exact⟨hs,by simp only;omega,h2,by simp only;omega,by simp only;omega,by simp only;omega⟩
  .exact⟨hs,by simp only;omega,h2,by simp only;omega,by simp only;omega,by simp only;omega⟩
theorem zls{n:Nat}{l:qu}(h:LB n l)(hs:n+1<900000)(id:Int):LB (n+1) (delF l id).2:=by
 have h1:=h.len;have h2:=h.nx0;have h3:=h.nx1;have h4:=h.mn0;have h5:=h.mn1;unfold delF;split
 .exact⟨hs,by simp only;omega,h2,by simp only;omega,by simp only;omega,by simp only;omega⟩
 .exact⟨hs,by simp[delL];omega,h2,by simp only[delL];omega,by simp only[delL];omega,by simp only[delL];omega⟩
theorem zl5{n:Nat}{l:qu}(h:LB n l)(hs:n+1<900000)(id:Int)(fs:List Fld):LB (n+1) (insF l id fs).2.2:=by
 have h1:=h.len;have h2:=h.nx0;have h3:=h.nx1;have h4:=h.mn0;have h5:=h.mn1;have same:LB (n+1) l:=⟨hs,Om,h2,Om,Om,Om⟩;unfold insF;split
 .exact same
 .split
  .split
   .exact same
   .exact⟨hs,by simp[insL];omega,by simp only[insL];omega,by simp only[insL];omega,by simp only[insL];omega,by simp only[insL];omega⟩
  .exact same
end Go.Pl
namespace Go.Proofs.YtihlchbgjdkmpaaGreatDoor
open Go Go.Av Go.RowKit Go.Proofs Go.Pl
def oneF(l:qu)(x:qp):Int×ErrV×qu:=if x.kind=1 then(0,xg l x.id x.fields)else if x.kind=2 then(0,delF l x.id)else insF l x.id x.fields
theorem qnu{n:Nat}{l:qu}(h:LB n l)(hs:n+1<900000)(x:qp):LB (n+1) (oneF l x).2.2:=by
 unfold oneF;split
 .exact zj5 h hs _ _
 .split
  .exact zls h hs _
  .exact zl5 h hs _ _
theorem q99(l:qu)(hl:l.ents.length<1000000):va E 119 [.a (v4 l)] 0 (hpF []) ⟨.bx 0 0,kr [],lstH 1 l++vv [],2⟩:=by
 refine xl [.a (v4 l)] [] 0 (.bx 0 0) (lstH 1 l) 2 Tryz.func119 rfl rfl rfl rfl λS F ρ=>?_;apply qf [19];repeat' (first|apply Qa|(intro h;try exact cDd)|exact⟨Tryz.call169⟩|(refine Qb _ ⟨q72 [.sl 4 (l.ents.map entA) none] _ (λ_=>rfl) (λst=>zbv l.ents st hl),?_⟩)|exact cSd|apply qd [19]|refine exr ?_|refine qg ?_)
theorem zmg(n:Nat)(l:qu)(id:Int)(fs:List Fld)(hB:LB n l)(hK:KeyB fs)(hl:fs.length<1000000):va E 170 [.bx 0 0,.i id,.a (jl fs)] 2 (hpF (lstH 1 l)) ⟨.a (errA (xg l id fs).1),kr (lstH 1 l),lstH 2 (xg l id fs).2++vv (lstH 1 l),3⟩:=by
 refine xl [.bx 0 0,.i id,.a (jl fs)] (lstH 1 l) 2 (.a (errA (xg l id fs).1)) (lstH 2 (xg l id fs).2) 3 Tryz.func170 rfl rfl rfl rfl λS F ρ=>?_;have d7:=hB.len;have hsm:=hB.small;have h1:=qsa l id Om;have h2:=λst=>zao fs st hK hl;unfold xg;rcases qfu l id with h|⟨i,e,h,he,cr,hid1⟩
 .rw[h]at h1⊢
  rw[if_pos (by decide)];apply qf [];repeat' (first|apply Qa|(intro h;try exact cDd)|exact⟨Tryz.call174⟩|(refine jm h1 ?_)|exact cSd|apply qd []|refine exr ?_|refine qg ?_)
 .rw[h]at h1⊢
  rw[if_neg Om];have hm:(l.ents.map entA)[i]?=some (entA e):=by rw[Qd,he];rfl
  have dg:=lt_of_getElem? hm;unfold yn at h2⊢
  cases hc:z4 fs with
  |no=>
   rw[hc,if_pos rfl]at h2;rw[if_pos rfl,if_pos rfl];unfold qh0;rw[Qh,he];apply qf [];repeat' (first|apply Qa|(intro h;try exact cDd)|exact⟨Tryz.call174⟩|(refine jm h1 ?_)|exact⟨Tryz.call224⟩|refine cpe h2 ?_|(refine qgh (i:=i) rfl rfl rfl rfl rfl rfl Om ?_)|(refine zfw (i:=i) (j:=0) (z:=entA e) (z':=entA ⟨⟨3,zy fs,fs⟩,e.id⟩) (u:=kq ⟨3,zy fs,fs⟩) rfl rfl (λ_=>rfl) rfl rfl rfl hm rfl rfl ?_)|exact cSd|apply qd []|refine exr ?_|refine qg ?_)
   all_goals (simp[List.map_set];done)
  |num m=>
   rw[hc,if_neg Sx]at h2;rw[if_neg Sx];apply qf []
   repeat' (first|apply Qa|(intro h;try exact cDd)|exact⟨Tryz.call174⟩|(refine jm h1 ?_)|exact⟨Tryz.call224⟩|refine cpe h2 ?_|exact cSd|apply qd []|refine exr ?_|refine qg ?_)
  |at' a m=>
   rw[hc,if_neg Sx]at h2;rw[if_neg Sx];apply qf [];repeat' (first|apply Qa|(intro h;try exact cDd)|exact⟨Tryz.call174⟩|(refine jm h1 ?_)|exact⟨Tryz.call224⟩|refine cpe h2 ?_|exact cSd|apply qd []|refine exr ?_|refine qg ?_)
theorem zn2(n:Nat)(l:qu)(id:Int)(hB:LB n l):va E 171 [.bx 0 0,.i id] 2 (hpF (lstH 1 l)) ⟨.a (errA (delF l id).1),kr (lstH 1 l),lstH 2 (delF l id).2++vv (lstH 1 l),3⟩:=by
 refine xl [.bx 0 0,.i id] (lstH 1 l) 2 (.a (errA (delF l id).1)) (lstH 2 (delF l id).2) 3 Tryz.func171 rfl rfl rfl rfl λS F ρ=>?_;have d7:=hB.len;have hsm:=hB.small;have h4:=hB.mn0;have h5:=hB.mn1;have h1:=qsa l id Om;unfold delF;rcases qfu l id with h|⟨i,e,h,he,cr,hid1⟩
 .rw[h]at h1⊢
  rw[if_pos (by decide)];apply qf [];repeat' (first|apply Qa|(intro h;try exact cDd)|exact⟨Tryz.call174⟩|(refine jm h1 ?_)|exact cSd|apply qd []|refine exr ?_|refine qg ?_)
 .rw[h]at h1⊢
  rw[if_neg Om];have dg:=lt_of_getElem? he;have h2:=qub (f:=225) (E:=E) (xs:=l.ents.map entA) [Iv i,Iv ((i:Int)+1)] rfl (λst c hc=>zor l.ents i dg Om st c hc);unfold delL;rw[Qh];apply qf [];repeat' (first|apply Qa|(intro h;try exact cDd)|exact⟨Tryz.call174⟩|(refine jm h1 ?_)|exact⟨Tryz.call225⟩|(refine jm h2 ?_)|exact cSd|apply qd []|refine exr ?_|refine qg ?_)
theorem zn6(n:Nat)(l:qu)(id:Int)(fs:List Fld)(hB:LB n l)(hK:KeyB fs)(hl:fs.length<1000000):va E 172 [.bx 0 0,.i id,.a (jl fs)] 2 (hpF (lstH 1 l)) ⟨.tu [.i (insF l id fs).1,.a (errA (insF l id fs).2.1)],kr (lstH 1 l),lstH 2 (insF l id fs).2.2++vv (lstH 1 l),3⟩:=by
 refine xl [.bx 0 0,.i id,.a (jl fs)] (lstH 1 l) 2 (.tu [.i (insF l id fs).1,.a (errA (insF l id fs).2.1)]) (lstH 2 (insF l id fs).2.2) 3 Tryz.func172 rfl rfl rfl rfl λS F ρ=>?_;have d7:=hB.len;have hsm:=hB.small;have h4:=hB.mn0;have h5:=hB.mn1;have h6:=hB.nx0;have h7:=hB.nx1;have h1:=qsa l id Om;have h2:=λst=>zao fs st hK hl;unfold insF;rcases qfu l id with h|⟨i,e,h,he,cr,hid1⟩
 .rw[h]at h1⊢
  by_cases h0:id=0
  .rw[if_neg (λq=>q.2 h0)]
   rw[show((-1:Int)+1).toNat=0 from rfl];unfold yn at h2⊢
   cases hc:z4 fs with
   |no=>
    rw[hc,if_pos rfl]at h2;rw[if_pos rfl,if_pos rfl];by_cases hm:400<=l.many
    .rw[if_pos hm]
     apply qf [];repeat' (first|apply Qa|(intro h;try exact cDd)|exact⟨Tryz.call174⟩|(refine jm h1 ?_)|exact⟨Tryz.call224⟩|refine cpe h2 ?_|exact cSd|apply qd []|refine exr ?_|refine qg ?_)
    .rw[if_neg hm]
     have h3:=qub (f:=226) (E:=E) (xs:=l.ents.map entA) [Iv ((0:Nat):Int),.sl 4 [entA ⟨⟨3,zy fs,fs⟩,l.next⟩] none] rfl (λst c hc=>zgp l.ents ⟨⟨3,zy fs,fs⟩,l.next⟩ (0) Om Om st c hc);unfold insL;apply qf []
     repeat' (first|apply Qa|(intro h;try exact cDd)|exact⟨Tryz.call174⟩|(refine jm h1 ?_)|exact⟨Tryz.call224⟩|refine cpe h2 ?_|exact⟨Tryz.call226⟩|(refine jm h3 ?_)|exact cSd|apply qd []|refine exr ?_|refine qg ?_)
   |num m=>
    rw[hc,if_neg Sx]at h2;rw[if_neg Sx];apply qf []
    repeat' (first|apply Qa|(intro h;try exact cDd)|exact⟨Tryz.call174⟩|(refine jm h1 ?_)|exact⟨Tryz.call224⟩|refine cpe h2 ?_|exact cSd|apply qd []|refine exr ?_|refine qg ?_)
   |at' a m=>
    rw[hc,if_neg Sx]at h2;rw[if_neg Sx];apply qf [];repeat' (first|apply Qa|(intro h;try exact cDd)|exact⟨Tryz.call174⟩|(refine jm h1 ?_)|exact⟨Tryz.call224⟩|refine cpe h2 ?_|exact cSd|apply qd []|refine exr ?_|refine qg ?_)
  .rw[if_pos ⟨by decide,h0⟩]
   apply qf [];repeat' (first|apply Qa|(intro h;try exact cDd)|exact⟨Tryz.call174⟩|(refine jm h1 ?_)|exact cSd|apply qd []|refine exr ?_|refine qg ?_)
 .rw[h]at h1⊢
  have dg:=lt_of_getElem? he;rw[if_neg (λq=>absurd q.1 Om)];rw[show((i:Int)+1).toNat=i+1 from rfl];unfold yn at h2⊢
  cases hc:z4 fs with
  |no=>
   rw[hc,if_pos rfl]at h2;rw[if_pos rfl,if_pos rfl];by_cases hm:400<=l.many
   .rw[if_pos hm]
    apply qf [];repeat' (first|apply Qa|(intro h;try exact cDd)|exact⟨Tryz.call174⟩|(refine jm h1 ?_)|exact⟨Tryz.call224⟩|refine cpe h2 ?_|exact cSd|apply qd []|refine exr ?_|refine qg ?_)
   .rw[if_neg hm]
    have h3:=qub (f:=226) (E:=E) (xs:=l.ents.map entA) [Iv ((i+1:Nat):Int),.sl 4 [entA ⟨⟨3,zy fs,fs⟩,l.next⟩] none] rfl (λst c hc=>zgp l.ents ⟨⟨3,zy fs,fs⟩,l.next⟩ (i+1) Om Om st c hc);unfold insL;apply qf []
    repeat' (first|apply Qa|(intro h;try exact cDd)|exact⟨Tryz.call174⟩|(refine jm h1 ?_)|exact⟨Tryz.call224⟩|refine cpe h2 ?_|exact⟨Tryz.call226⟩|(refine jm h3 ?_)|exact cSd|apply qd []|refine exr ?_|refine qg ?_)
  |num m=>
   rw[hc,if_neg Sx]at h2;rw[if_neg Sx];apply qf []
   repeat' (first|apply Qa|(intro h;try exact cDd)|exact⟨Tryz.call174⟩|(refine jm h1 ?_)|exact⟨Tryz.call224⟩|refine cpe h2 ?_|exact cSd|apply qd []|refine exr ?_|refine qg ?_)
  |at' a m=>
   rw[hc,if_neg Sx]at h2;rw[if_neg Sx];apply qf [];repeat' (first|apply Qa|(intro h;try exact cDd)|exact⟨Tryz.call174⟩|(refine jm h1 ?_)|exact⟨Tryz.call224⟩|refine cpe h2 ?_|exact cSd|apply qd []|refine exr ?_|refine qg ?_)
def kg:Nat->List qp->qu->List Int->ErrV×qu×List Int
 |_,[],l,ids=>(.no,l,ids)
 |k,x::r,l,ids=>if(oneF l x).2.1=.no then kg (k+1) r (oneF l x).2.2 (if 0<(oneF l x).1 then ids++[(oneF l x).1]else ids)else(.at' k (oneF l x).2.1.code,l,ids)
def doF(l:qu)(b:List qp):ErrV×qu×List Int:=if eErr b=.no then kg 0 b l []else(eErr b,l,[])
def doA(r:ErrV×qu×List Int):AV:=match r.1 with
 |.no=>.tu [v4 r.2.1,wn r.2.2,errA .no]
 |e=>.tu [.v (.pointer none),wn [],errA e]
theorem zib(r:ErrV×qu×List Int):Pure (doA r):=by
 unfold doA;split
 .exact qad (qkg _) (qcr _) (ku _)
 .exact qad (qt _) (qcr _) (ku _)
theorem qrf{l:qu}{x:qp}(h:(oneF l x).2.1≠.no):(oneF l x).2.1.code≠0:=by
 have key:∀fs:List Fld,z4 fs≠.no->(z4 fs).code≠0:=λfs h h'=>h ((qk0 fs).1 h');unfold oneF at h⊢;split
 .rename_i h1
  rw[if_pos h1]at h;unfold xg at h⊢;split
  .exact(by decide:(ErrV.num 7).code≠0)
  .rename_i h2
   rw[if_neg h2]at h;split
   .rename_i h3
    rw[if_pos h3]at h;exact absurd rfl h
   .exact key _ (by assumption)
 .rename_i h1
  rw[if_neg h1]at h;split
  .rename_i h2
   rw[if_pos h2]at h;unfold delF at h⊢;split
   .exact(by decide:(ErrV.num 7).code≠0)
   .rename_i h3
    rw[if_neg h3]at h;exact absurd rfl h
  .rename_i h2
   rw[if_neg h2]at h;unfold insF at h⊢;split
   .exact(by decide:(ErrV.num 7).code≠0)
   .rename_i h3
    rw[if_neg h3]at h;split
    .rename_i h4
     rw[if_pos h4]at h;split
     .exact(by decide:(ErrV.num 11).code≠0)
     .rename_i h5
      rw[if_neg h5]at h;exact absurd rfl h
    .exact key _ (by assumption)
theorem zeu(n:Nat)(l:qu)(x:qp)(hB:LB n l)(hK:KeyB x.fields)(hl:x.fields.length<1000000):va E 120 [.bx 0 0,.a (zz x)] 2 (hpF (lstH 1 l)) ⟨.tu [.i (oneF l x).1,.a (errA (oneF l x).2.1)],kr (lstH 1 l),lstH 2 (oneF l x).2.2++vv (lstH 1 l),3⟩:=by
 refine xl [.bx 0 0,.a (zz x)] (lstH 1 l) 2 (.tu [.i (oneF l x).1,.a (errA (oneF l x).2.1)]) (lstH 2 (oneF l x).2.2) 3 Tryz.func120 rfl rfl rfl rfl λS F ρ=>?_;unfold oneF;by_cases h1:x.kind=1
 .rw[if_pos h1]
  have hc:=zmg n l x.id x.fields hB hK hl;generalize xg l x.id x.fields=r at hc;apply qf [];repeat' (first|apply Qa|(intro h;try exact cDd)|exact⟨Tryz.call170⟩|(refine jm hc ?_)|exact cSd|apply qd []|refine exr ?_|refine qg ?_)
 .rw[if_neg h1]
  by_cases h2:x.kind=2
  .rw[if_pos h2]
   have hc:=zn2 n l x.id hB;generalize delF l x.id=r at hc;apply qf [];repeat' (first|apply Qa|(intro h;try exact cDd)|exact⟨Tryz.call171⟩|(refine jm hc ?_)|exact cSd|apply qd []|refine exr ?_|refine qg ?_)
  .rw[if_neg h2]
   have hc:=zn6 n l x.id x.fields hB hK hl;generalize insF l x.id x.fields=r at hc;apply qf [];repeat' (first|apply Qa|(intro h;try exact cDd)|exact⟨Tryz.call172⟩|(refine jm hc ?_)|exact cSd|apply qd []|refine exr ?_|refine qg ?_)
theorem zb2(n:Nat)(l:qu)(b:List qp)(st:List AObj)(hB:LB n l)(hn:n+40<900000)(hE:∀x∈b,EdB x)(hl:b.length<1000000):qr E 70 [v4 l,zr b] st λr st'=>r=doA (doF l b)∧st'=st:=by
 refine qpc [.a (v4 l),.a (zr b)] (zib _) Tryz.func70 rfl rfl (λ_=>rfl) rfl λS0=>?_;have bf:=λst=>qof b st _ rfl hE Om;unfold doF
 cases he:eErr b with
 |num m=>
  rw[he]at bf;rw[if_neg Sx];apply qf []
  repeat' (first|apply Qa|(intro h;try exact cDd)|exact⟨Tryz.call99⟩|refine cpe bf ?_|exact cSd|apply qd []|refine exr ?_|refine qg ?_)
 |at' a m=>
  rw[he]at bf;rw[if_neg Sx];apply qf []
  repeat' (first|apply Qa|(intro h;try exact cDd)|exact⟨Tryz.call99⟩|refine cpe bf ?_|exact cSd|apply qd []|refine exr ?_|refine qg ?_)
 |no=>
  rw[he]at bf;rw[if_pos rfl];obtain⟨r6,hb40,hg⟩:=qcd he;have sg:=q99 l (by have:=hB.len;omega);apply qf [];repeat' (first|apply Qa|(intro h;try exact cDd)|exact⟨Tryz.call99⟩|refine cpe bf ?_|exact⟨Tryz.call119⟩|(refine jm sg ?_)|exact cSd|apply qd []|refine exr ?_|refine qg ?_)
  refine zx (X:=Nat×qu×List Int) (λ(k,q,ids)=>⟨[(8,.bx 0 0),(9,.tp 2),(21,.a (zr b)),(22,.i b.length),(23,.i k)],[(0,some (.cells 144 [.tp 1,.i q.next,.i q.many])),(1,some (.own 4 100 (q.ents.map entA))),(2,some (.tip 1 3 (ids.map λx=>Iv x)))],3⟩)
   (λ(k,q,ids)=>k<=b.length∧LB (n+k) q∧ids.length<=k∧kg k (b.drop k) q ids=kg 0 b l []) (λ(k,q,ids)=>b.length-k) (0,l,[]) ⟨Om,hB,Sx,rfl⟩ ?_ ?_
  .skip
   repeat' (first|apply Qa|(intro h;try exact cDd)|exact cSd|apply qd []|refine exr ?_|refine qg ?_)
   all_goals (simp;done)
  .rintro⟨k,q,ids⟩ ⟨hk,hq,dg,a8⟩
   by_cases e9:k<b.length
   .have hx:b[k]?=some b[k]:=Qc e9
    have i3:(b.map zz)[k]?=some (zz b[k]):=by rw[Qd,hx];rfl
    have hxE:=hE b[k] (Qs e9);have hxf:=(qgv (hg b[k] (Qs e9))).1;rw[Qf e9,kg]at a8;have hidl:(ids.map λx=>Iv x).length=ids.length:=Sx
    generalize b[k]=x at hx i3 hxE hxf a8;have mz:=zeu (n+k) q x hq hxE.keys Om;have rf:=qnu hq Om x;have gq:=λh=>qrf (l:=q) (x:=x) h;generalize oneF q x=o at mz rf gq a8;obtain⟨id,e,q'⟩:=o;dsimp only at mz rf gq a8
    cases e with
    |no=>
     rw[if_pos rfl]at a8;by_cases h0:0<id
     .rw[if_pos h0]at a8
      apply qf [];repeat' (first|apply Qa|(intro h;try exact cDd)|(refine Qb (k) ⟨Om,_,i3,?_⟩)|exact⟨Tryz.call120⟩|(refine jm mz ?_)|(refine Qb (k+1,q',ids++[id]) ⟨⟨Om,rf,So,a8⟩,by simp only;omega,?_⟩)|exact cSd|apply qd []|refine exr ?_|refine qg ?_)
      all_goals first|(simp;done)|(simp;omega)
     .rw[if_neg h0]at a8
      apply qf [];repeat' (first|apply Qa|(intro h;try exact cDd)|(refine Qb (k) ⟨Om,_,i3,?_⟩)|exact⟨Tryz.call120⟩|(refine jm mz ?_)|(refine Qb (k+1,q',ids) ⟨⟨Om,rf,by first|omega|(simp only;omega),a8⟩,by simp only;omega,?_⟩)|exact cSd|apply qd []|refine exr ?_|refine qg ?_)
      all_goals first|(simp;done)|(simp;omega)
    |num m=>
     rw[if_neg Sx]at a8;rw[<-a8];have hft:=λst=>quf k (.num m) st (gq Sx);apply qf []
     repeat' (first|apply Qa|(intro h;try exact cDd)|(refine Qb (k) ⟨Om,_,i3,?_⟩)|exact⟨Tryz.call120⟩|(refine jm mz ?_)|exact⟨Tryz.call121⟩|refine cpe hft ?_|exact cSd|apply qd []|refine exr ?_|refine qg ?_)
    |at' a m=>
     rw[if_neg Sx]at a8;rw[<-a8];have hft:=λst=>quf k (.at' a m) st (gq Sx);apply qf [];repeat' (first|apply Qa|(intro h;try exact cDd)|(refine Qb (k) ⟨Om,_,i3,?_⟩)|exact⟨Tryz.call120⟩|(refine jm mz ?_)|exact⟨Tryz.call121⟩|refine cpe hft ?_|exact cSd|apply qd []|refine exr ?_|refine qg ?_)
   .have e9:k=b.length:=by omega
    subst e9;rw[Qt,kg]at a8;rw[<-a8];apply qf [];repeat' (first|apply Qa|(intro h;try exact cDd)|exact cSd|apply qd []|refine exr ?_|refine qg ?_)
structure RunV where
 l:qu
 given:List (List Int)
 touched:List Int
def qds(b:List qp):List Int:=(b.filter λx=>decide (x.kind≠3)).map λx=>x.id
def qaf(r:RunV)(b:List qp):RunV:=⟨(doF r.l b).2.1,r.given++[(doF r.l b).2.2],r.touched++qds b⟩
def z0:List (List qp)->RunV->ErrV×RunV
 | [],r=>(.no,r)
 |b::q,r=>if(doF r.l b).1=.no then z0 q (qaf r b)else(.at' r.given.length 10,r)
def z8(base:qc)(bs:List (List qp)):ErrV×RunV:=if jw base=.no then z0 bs ⟨ofF (itsE base),[],[]⟩else(jw base,⟨ofF [],[],[]⟩)
@[reducible] def qla (g : List (List Int)) : AV := .sl 1 (g.map wn) none
@[reducible] def runA (r : RunV) : AV := .pp [v4 r.l, qla r.given, wn r.touched]
def zcu(r:ErrV×RunV):AV:=match r.1 with
 |.no=>.tu [runA r.2,errA .no]
 |e=>.tu [.v (.pointer none),errA e]
theorem qiy(g:List (List Int)):Pure (qla g):=qaz λx hx=>by
 obtain⟨f,_,rfl⟩:=Zt.1 hx;intro y hy;simp only[AV.cells,Qj,Qm,or_false]at hy;rw[hy];exact qcr f
theorem zcv(r:ErrV×RunV):Pure (zcu r):=by
 unfold zcu;split
 .exact kc (qy4 λx hx=>by
   simp only[Qj,Qm,or_false]at hx;rcases hx with rfl|rfl|rfl
   .exact qkg _
   .exact qiy _
   .exact qcr _) (ku _)
 .exact kc (qt _) (ku _)
theorem qgx{n m:Nat}{l:qu}(h:LB n l)(hm:n<=m)(hs:m<900000):LB m l:=by
 have h1:=h.len;have h2:=h.nx0;have h3:=h.nx1;have h4:=h.mn0;have h5:=h.mn1;exact⟨hs,Om,h2,Om,Om,Om⟩
theorem q0f:∀(b:List qp)(k n:Nat)(l:qu)(ids:List Int),LB n l->n+b.length<900000->LB (n+b.length) (kg k b l ids).2.1
 | [],k,n,l,ids,h,_=>h
 |x::r,k,n,l,ids,h,hs=>by
  simp only[Qo]at hs⊢;unfold kg;split
  .have:=q0f r (k+1) (n+1) (oneF l x).2.2 (if 0<(oneF l x).1 then ids++[(oneF l x).1]else ids) (qnu h Om x) Om
   rw[show n+(r.length+1)=n+1+r.length by omega];exact this
  .have h1:=h.len;have h2:=h.nx0;have h3:=h.nx1;have h4:=h.mn0;have h5:=h.mn1
   exact⟨Om,by simp only;omega,h2,by simp only;omega,by simp only;omega,by simp only;omega⟩
theorem qwc{n:Nat}{l:qu}(h:LB n l)(hs:n+40<900000)(b:List qp):LB (n+40) (doF l b).2.1:=by
 unfold doF;split
 .rename_i he
  obtain⟨h1,h2,_⟩:=qcd he;exact qgx (q0f b 0 n l [] h Om) Om hs
 .exact qgx h Om hs
theorem zfl:∀(its:List zh)(n:Nat)(l:qu),LB n l->n+its.length<900000->LB (n+its.length) (its.foldl x4 l)
 | [],n,l,h,_=>h
 |x::r,n,l,h,hs=>by
  simp only[Qo]at hs⊢;rw[Zo,show n+(r.length+1)=n+1+r.length by omega];refine zfl r (n+1) _ ?_ Om;have h1:=h.len;have h2:=h.nx0;have h3:=h.nx1;have h4:=h.mn0;have h5:=h.mn1;unfold x4;split
  .exact⟨Om,So,by simp only;omega,by simp only;omega,by simp only;omega,by simp only;omega⟩
  .exact⟨Om,So,h2,by simp only;omega,by simp only;omega,by simp only;omega⟩
theorem q5w(text:qc):LB 300000 (ofF (itsE text)):=by
 have h:=qus text;have:=zfl (itsE text) 0 ⟨[],1,0⟩ ⟨Om,Sx,Sx,Sx,Sx,Sx⟩ Om;exact qgx this Om Om
@[reducible] def runH (a : Nat) (r : RunV) : List (Nat × Option SR) := [(0, some (.cells 90 [.a (v4 r.l), .tp a, .tp (a + 1)])), (a, some (.tip 1 24 (r.given.map wn))), (a + 1, some (.tip 1 3 (r.touched.map fun x => Iv x)))]
def BB(b:List qp):Prop:=b.length<1000000∧∀x∈b,EdB x
theorem zmx(n:Nat)(r:RunV)(b:List qp)(hB:LB n r.l)(hn:n+40<900000)(hg:r.given.length<1000000)(ht:r.touched.length<100000000)(hb:BB b)(hok:(doF r.l b).1=.no):va E 67 [.bx 0 0,.a (zr b)] 3 (hpF (runH 1 r)) ⟨.a (.v .nilIface),kr (runH 1 r),runH 3 (qaf r b)++vv (runH 1 r),5⟩:=by
 refine xl [.bx 0 0,.a (zr b)] (runH 1 r) 3 (.a (.v .nilIface)) (runH 3 (qaf r b)) 5 Tryz.func67 rfl rfl rfl rfl λS F ρ=>?_;have mb:=λst=>zb2 n r.l b st hB hn hb.2 hb.1;unfold qaf;generalize doF r.l b=d at mb hok;obtain⟨e,l',ids⟩:=d;simp only at hok;subst hok;have mf:(r.given.map wn).length=r.given.length:=Sx
 have dn:=hb.1;apply qf [];repeat' (first|apply Qa|(intro h;try exact cDd)|exact⟨Tryz.call70⟩|refine cpe mb ?_|exact cSd|apply qd []|refine exr ?_|refine qg ?_)
 refine zx (X:=Nat) (λk=>⟨[(0,.bx 0 0),(45,.a (zr b)),(46,.i b.length),(47,.i k)],[(0,some (.cells 90 [.a (v4 l'),.tp 3,.tp 4])),(3,some (.tip 1 24 ((r.given++[ids]).map wn))),(4,some (.tip 1 3 ((r.touched++qds (b.take k)).map λx=>Iv x)))],5⟩)
  (λk=>k<=b.length) (λk=>b.length-k) 0 Om ?_ ?_
 .skip
  repeat' (first|apply Qa|(intro h;try exact cDd)|exact cSd|apply qd []|refine exr ?_|refine qg ?_)
  all_goals (simp[qds];done)
 .rintro k hk
  by_cases e9:k<b.length
  .have hx:b[k]?=some b[k]:=Qc e9
   have i3:(b.map zz)[k]?=some (zz b[k]):=by rw[Qd,hx];rfl
   have i6:b.take (k+1)=b.take k++[b[k]]:=by rw[Qr,hx];rfl
   have htl:(qds (b.take k)).length<=k:=by
    unfold qds;rw[Qg];exact Xa (Zq _ _) So
   generalize b[k]=x at hx i3 i6;by_cases h3:x.kind=3
   .have e:qds (b.take (k+1))=qds (b.take k):=by rw[i6];simp[qds,h3]
    apply qf [];repeat' (first|apply Qa|(intro h;try exact cDd)|(refine Qb (k) ⟨Om,_,i3,?_⟩)|(refine Qb (k+1) ⟨Om,Om,?_⟩)|exact cSd|apply qd []|refine exr ?_|refine qg ?_)
    all_goals (rw[e];done)
   .have e:qds (b.take (k+1))=qds (b.take k)++[x.id]:=by rw[i6];simp[qds,h3]
    apply qf [];repeat' (first|apply Qa|(intro h;try exact cDd)|(refine Qb (k) ⟨Om,_,i3,?_⟩)|(refine Qb (k+1) ⟨Om,Om,?_⟩)|exact cSd|apply qd []|refine exr ?_|refine qg ?_)
    all_goals first|(rw[e];simp;done)|(simp;omega)
  .have e9:k=b.length:=by omega
   subst e9;rw[Qw];apply qf [];repeat' (first|apply Qa|(intro h;try exact cDd)|exact cSd|apply qd []|refine exr ?_|refine qg ?_)
theorem zka(n:Nat)(r:RunV)(b:List qp)(hB:LB n r.l)(hn:n+40<900000)(hg:r.given.length<1000000)(hb:BB b)(hok:(doF r.l b).1≠.no):va E 67 [.bx 0 0,.a (zr b)] 3 (hpF (runH 1 r)) ⟨.a (errA (.at' r.given.length 10)),kr (runH 1 r),runH 3 r++vv (runH 1 r),5⟩:=by
 refine xl [.bx 0 0,.a (zr b)] (runH 1 r) 3 (.a (errA (.at' r.given.length 10))) (runH 3 r) 5 Tryz.func67 rfl rfl rfl rfl λS F ρ=>?_;have mb:=λst=>zb2 n r.l b st hB hn hb.2 hb.1;have mf:(r.given.map wn).length=r.given.length:=Sx
 generalize doF r.l b=d at mb hok;obtain⟨e,l',ids⟩:=d;simp only at hok
 cases e with
 |no=>exact absurd rfl hok
 |num m=>
  apply qf [];repeat' (first|apply Qa|(intro h;try exact cDd)|exact⟨Tryz.call70⟩|refine cpe mb ?_|exact cSd|apply qd []|refine exr ?_|refine qg ?_)
  all_goals (rw[mf];rfl)
 |at' a m=>
  apply qf [];repeat' (first|apply Qa|(intro h;try exact cDd)|exact⟨Tryz.call70⟩|refine cpe mb ?_|exact cSd|apply qd []|refine exr ?_|refine qg ?_)
  all_goals (rw[mf];rfl)
theorem zas(base:qc)(bs:List (List qp))(st:List AObj)(hl:base.length<1000000)(hn:bs.length<=14000)(hb:∀b∈bs,BB b∧b.length<=5000):qr E 37 [Sv base,qbj bs] st λr st'=>r=zcu (z8 base bs)∧st'=st:=by
 refine qpc [.s base,.a (qbj bs)] (zcv _) Tryz.func37 rfl rfl (λ_=>rfl) rfl λS0=>?_;have fg:=λst=>zi4 base st hl;have rf:=q5w base;unfold z8;generalize itsE base=its at fg rf
 cases he:jw base with
 |num m=>
  rw[he]at fg;rw[if_neg Sx];apply qf [22]
  repeat' (first|apply Qa|(intro h;try exact cDd)|exact⟨Tryz.call66⟩|refine cpe fg ?_|exact cSd|apply qd [22]|refine exr ?_|refine qg ?_)
 |at' a m=>
  rw[he]at fg;rw[if_neg Sx];apply qf [22]
  repeat' (first|apply Qa|(intro h;try exact cDd)|exact⟨Tryz.call66⟩|refine cpe fg ?_|exact cSd|apply qd [22]|refine exr ?_|refine qg ?_)
 |no=>
  rw[he]at fg;rw[if_pos rfl];apply qf [22];repeat' (first|apply Qa|(intro h;try exact cDd)|exact⟨Tryz.call66⟩|refine cpe fg ?_|exact cSd|apply qd [22]|refine exr ?_|refine qg ?_)
  refine zx (X:=Nat×RunV) (λ(k,r)=>⟨[(8,.bx 0 0),(23,.a (qbj bs)),(24,.i bs.length),(25,.i k)],[(0,some (.cells 90 [.a (v4 r.l),.tp 1,.tp 2])),(1,some (.tip 1 24 (r.given.map wn))),(2,some (.tip 1 3 (r.touched.map λx=>Iv x)))],3⟩)
   (λ(k,r)=>k<=bs.length∧LB (300000+40*k) r.l∧r.given.length=k∧r.touched.length<=5000*k∧z0 (bs.drop k) r=z0 bs ⟨ofF its,[],[]⟩) (λ(k,r)=>bs.length-k) (0,⟨ofF its,[],[]⟩) ⟨Om,rf,rfl,Sx,rfl⟩ ?_ ?_
  .skip
   repeat' (first|apply Qa|(intro h;try exact cDd)|exact cSd|apply qd []|refine exr ?_|refine qg ?_)
   all_goals (simp;done)
  .rintro⟨k,r⟩ ⟨hk,hq,mf,htl,a8⟩
   by_cases e9:k<bs.length
   .have hx:bs[k]?=some bs[k]:=Qc e9
    have i3:(bs.map zr)[k]?=some (zr bs[k]):=by rw[Qd,hx];rfl
    obtain⟨hbb,hb5⟩:=hb bs[k] (Qs e9);rw[Qf e9,z0]at a8;generalize bs[k]=b at hx i3 hbb hb5 a8;have hlb2:=qwc hq Om b;by_cases hok:(doF r.l b).1=.no
    .rw[if_pos hok]at a8
     have i6:=zmx (300000+40*k) r b hq Om Om Om hbb hok;have hgl2:(qaf r b).given.length=k+1:=by simp[qaf,mf]
     have htl2:(qaf r b).touched.length<=5000*(k+1):=by
      have:(qds b).length<=b.length:=by
       unfold qds;rw[Qg];exact Zq _ _
      simp only[qaf,Qe];omega
     have hlb3:LB (300000+40*(k+1)) (qaf r b).l:=qgx hlb2 Om Om;generalize qaf r b=r2 at i6 a8 hgl2 htl2 hlb3;apply qf [];repeat' (first|apply Qa|(intro h;try exact cDd)|(refine Qb (k) ⟨Om,_,i3,?_⟩)|exact⟨Tryz.call67⟩|(refine jm i6 ?_)|(refine Qb (k+1,r2) ⟨⟨Om,hlb3,hgl2,htl2,a8⟩,by simp only;omega,?_⟩)|exact cSd|apply qd []|refine exr ?_|refine qg ?_)
    .rw[if_neg hok]at a8
     rw[<-a8];have i6:=zka (300000+40*k) r b hq Om Om hbb hok;apply qf [];repeat' (first|apply Qa|(intro h;try exact cDd)|(refine Qb (k) ⟨Om,_,i3,?_⟩)|exact⟨Tryz.call67⟩|(refine jm i6 ?_)|exact cSd|apply qd []|refine exr ?_|refine qg ?_)
   .have e9:k=bs.length:=by omega
    subst e9;rw[Qt,z0]at a8;rw[<-a8];apply qf [];repeat' (first|apply Qa|(intro h;try exact cDd)|exact cSd|apply qd []|refine exr ?_|refine qg ?_)
structure BkB (b:j5):Prop where
 base:b.base.length<1000000
 len:b.batches.length<=14000
 bat:∀x∈b.batches,BB x∧x.length<=5000
theorem zf5(b:List qp):9<=(recE b).length:=by
 unfold recE recF qiz;simp[zf];omega
theorem qxo:∀r:List (List qp),9*r.length<=(vj r).length
 | []=>by simp[vj]
 |b::r=>by
  have h1:=qxo r;have h2:=zf5 b;rw[qa4];simp only[Qe,Qo];omega
theorem qen{text:qc}{b:j5}(h:xy text b):BkB b:=by
 have h1:=congrArg List.length h.split;have h2:=h.len;have h3:=qxo b.batches;simp only[Qe,qau]at h1;refine⟨Om,Om,λx hx=>?_⟩;obtain⟨g1,g2,_⟩:=qcd (h.good x hx).ok;exact⟨⟨Om,(h.good x hx).B⟩,Om⟩
def qec(b:j5)(n:Int):ErrV×RunV:=if n<0∨(b.batches.length:Int)<n then(.num 1,⟨ofF [],[],[]⟩)else z8 b.base (b.batches.take n.toNat)
theorem q1i(b:j5)(n:Int)(st:List AObj)(hB:BkB b):qr E 10 [qbd b,Iv n] st λr st'=>r=qw5 (qec b n).1 (qec b n).2.l∧st'=st:=by
 refine zj [.a (qbd b),.i n] (qm8 _ _) Tryz.func10 rfl rfl (λ_=>rfl) rfl λS0=>?_;have dn:=hB.len;have o0:(b.batches.map zr).length=b.batches.length:=Sx
 unfold qec;by_cases hn:n<0∨(b.batches.length:Int)<n
 .rw[if_pos hn]
  apply qf [];repeat' (first|apply Qa|(intro h;try exact cDd)|exact cSd|apply qd []|refine exr ?_|refine qg ?_)
 .rw[if_neg hn]
  obtain⟨k,rfl⟩:∃k:Nat,n=(k:Int):=⟨n.toNat,Om⟩;rw[Qh];have hp:=λst=>zas b.base (b.batches.take k) st hB.base So (λx hx=>hB.bat x (Zh hx));unfold qbj at hp;rw[Zb]at hp;generalize z8 b.base (b.batches.take k)=p at hp;obtain⟨e,r⟩:=p
  cases e with
  |no=>
   apply qf []
   repeat' (first|apply Qa|(intro h;try exact cDd)|exact⟨Tryz.call37⟩|refine cpe hp ?_|exact cSd|apply qd []|refine exr ?_|refine qg ?_)
  |num m=>
   apply qf []
   repeat' (first|apply Qa|(intro h;try exact cDd)|exact⟨Tryz.call37⟩|refine cpe hp ?_|exact cSd|apply qd []|refine exr ?_|refine qg ?_)
  |at' a m=>
   apply qf [];repeat' (first|apply Qa|(intro h;try exact cDd)|exact⟨Tryz.call37⟩|refine cpe hp ?_|exact cSd|apply qd []|refine exr ?_|refine qg ?_)
theorem zo8(b:j5)(st:List AObj)(hB:BkB b):qr E 36 [qbd b] st λr st'=>r=qw5 (z8 b.base b.batches).1 (z8 b.base b.batches).2.l∧st'=st:=by
 refine zj [.a (qbd b)] (qm8 _ _) Tryz.func36 rfl rfl (λ_=>rfl) rfl λS0=>?_;have o0:(b.batches.map zr).length=b.batches.length:=Sx
 have e:qec b (((b.batches.map zr).length:Nat):Int)=z8 b.base b.batches:=by
  unfold qec;rw[o0,if_neg Om,Qh,Qw]
 have hp:=λst=>q1i b (((b.batches.map zr).length:Nat):Int) st hB;rw[e]at hp;generalize z8 b.base b.batches=p at hp;obtain⟨er,r⟩:=p
 cases er with
 |no=>
  apply qf []
  repeat' (first|apply Qa|(intro h;try exact cDd)|exact⟨Tryz.call10⟩|refine cpe hp ?_|exact cSd|apply qd []|refine exr ?_|refine qg ?_)
 |num m=>
  apply qf []
  repeat' (first|apply Qa|(intro h;try exact cDd)|exact⟨Tryz.call10⟩|refine cpe hp ?_|exact cSd|apply qd []|refine exr ?_|refine qg ?_)
 |at' a m=>
  apply qf [];repeat' (first|apply Qa|(intro h;try exact cDd)|exact⟨Tryz.call10⟩|refine cpe hp ?_|exact cSd|apply qd []|refine exr ?_|refine qg ?_)
def jx(text:qc):ErrV×j5×qu:=if(jj text).1=.no then(if(z8 (jj text).2.base (jj text).2.batches).1=.no then(.no,(jj text).2,(z8 (jj text).2.base (jj text).2.batches).2.l)else((z8 (jj text).2.base (jj text).2.batches).1,qao,ofF []))else((jj text).1,qao,ofF [])
def qxv(r:ErrV×j5×qu):AV:=match r.1 with
 |.no=>.tu [qbd r.2.1,v4 r.2.2,errA .no]
 |e=>.tu [qbd r.2.1,.v (.pointer none),errA e]
theorem q81(r:ErrV×j5×qu):Pure (qxv r):=by
 unfold qxv;split
 .exact qad (qe9 _) (qkg _) (ku _)
 .exact qad (qe9 _) (qt _) (ku _)
theorem zat(text:qc)(st:List AObj)(hl:text.length<1000000):qr E 9 [Sv text] st λr st'=>r=qxv (jx text)∧st'=st:=by
 refine zj [.s text] (q81 _) Tryz.func9 rfl rfl (λ_=>rfl) rfl λS0=>?_;have bn:=λst=>q9i text st hl;have sb:(jj text).1=.no->BkB (jj text).2:=λh=>qen (qkz (text:=text) (b:=(jj text).2) (by rw[<-h]));unfold jx;generalize jj text=q at bn sb;obtain⟨e,b⟩:=q
 cases e with
 |num m=>
  rw[if_neg Sx];apply qf []
  repeat' (first|apply Qa|(intro h;try exact cDd)|exact⟨Tryz.call35⟩|refine cpe bn ?_|exact cSd|apply qd []|refine exr ?_|refine qg ?_)
 |at' a m=>
  rw[if_neg Sx];apply qf []
  repeat' (first|apply Qa|(intro h;try exact cDd)|exact⟨Tryz.call35⟩|refine cpe bn ?_|exact cSd|apply qd []|refine exr ?_|refine qg ?_)
 |no=>
  rw[if_pos rfl];have fg:=λst=>zo8 b st (sb rfl);dsimp only;generalize z8 b.base b.batches=p at fg;obtain⟨e,r⟩:=p
  cases e with
  |no=>
   rw[if_pos rfl];apply qf []
   repeat' (first|apply Qa|(intro h;try exact cDd)|exact⟨Tryz.call35⟩|refine cpe bn ?_|exact⟨Tryz.call36⟩|refine cpe fg ?_|exact cSd|apply qd []|refine exr ?_|refine qg ?_)
  |num m=>
   rw[if_neg Sx];apply qf []
   repeat' (first|apply Qa|(intro h;try exact cDd)|exact⟨Tryz.call35⟩|refine cpe bn ?_|exact⟨Tryz.call36⟩|refine cpe fg ?_|exact cSd|apply qd []|refine exr ?_|refine qg ?_)
  |at' a m=>
   rw[if_neg Sx];apply qf [];repeat' (first|apply Qa|(intro h;try exact cDd)|exact⟨Tryz.call35⟩|refine cpe bn ?_|exact⟨Tryz.call36⟩|refine cpe fg ?_|exact cSd|apply qd []|refine exr ?_|refine qg ?_)
end Go.Proofs.YtihlchbgjdkmpaaGreatDoor
namespace Go.Pl
open Go Go.Proofs Go.Proofs.YtihlchbgjdkmpaaGreatDoor
def trL(ls:List qc):List (qc×Bool):=ls.map λs=>(s,true)
def now0:zh:=⟨2,[],[]⟩
def blkR:Bool->zh->List qc->Option zh
 |_,now,[]=>some now
 |prev,now,t::r=>
  if ko prev t true (trL r) now.fields.length 0≠0∨qy t=1 then none
  else if qy t=4 then blkR true ⟨3,now.raw++t++[10],now.fields++[(zv (t::vi (trL r))).1]⟩ r
  else blkR (decide (qy t=3)) ⟨now.kind,now.raw++t++[10],now.fields⟩ r
def q2o:List (qc×Bool)->Prop
 | []=>True
 |(t,_)::_=>qy t=1
theorem qmj:∀(ls:List qc)(rest:List (qc×Bool)),q2o rest->vi (trL ls++rest)=vi (trL ls)
 | [],[],_=>rfl
 | [],(t,e)::r,h=>by
  have h:qy t=1:=h
  show(if qy t=3 then _ else _)=_
  rw[if_neg Om]
  rfl
 |t::r,rest,h=>by
  show(if qy t=3 then t::vi (trL r++rest)else [])=(if qy t=3 then t::vi (trL r)else [])
  rw[qmj r rest h]
theorem qpr(prev:Bool)(t:qc)(ls:List qc)(rest:List (qc×Bool))(n:Nat)(rec:Int)(h:q2o rest):ko prev t true (trL ls++rest) n rec=ko prev t true (trL ls) n rec:=by
 unfold ko;rw[qmj ls rest h]
theorem zhk{prev:Bool}{t:qc}{L:List (qc×Bool)}{n:Nat}{rec:Int}(h:ko prev t true L n 0=0)(hr:qy t=4->n=0->rec<400):ko prev t true L n rec=0:=by
 unfold ko at h⊢;split
 .rename_i h1;rw[if_pos h1]at h;exact h
 .rename_i h1
  rw[if_neg h1]at h;split
  .rfl
  .rename_i h4
   rw[if_neg h4]at h;split
   .rename_i hu;rw[if_pos hu]at h;exact h
   .rename_i hu
    rw[if_neg hu]at h;have h4:=Classical.not_not.1 h4;rw[if_neg];intro hh;rcases hh with hh|hh
    .rw[if_pos (.inl hh)]at h;omega
    .have:=hr h4 hh.1;omega
theorem qyc{prev:Bool}{t:qc}{e:Bool}{L:List (qc×Bool)}{n:Nat}{rec:Int}(h:ko prev t e L n rec=0):ko prev t e L n 0=0:=by
 unfold ko at h⊢;split
 .rename_i h1;rw[if_pos h1]at h;exact h
 .rename_i h1
  rw[if_neg h1]at h;split
  .rfl
  .rename_i h4
   rw[if_neg h4]at h;split
   .rename_i hu;rw[if_pos hu]at h;exact h
   .rename_i hu
    rw[if_neg hu]at h;rw[if_neg];intro hh;rcases hh with hh|hh
    .rw[if_pos (.inl hh)]at h;omega
    .omega
theorem zhj{prev:Bool}{t:qc}{e:Bool}{L:List (qc×Bool)}{n:Nat}{rec:Int}(h:ko prev t e L n rec=0):e=true∧10∉t:=by
 unfold ko at h;split at h
 .omega
 .rename_i h1
  refine⟨by cases e with|true=>rfl|false=>exact absurd (.inr (.inr rfl)) h1,λg9=>h1 (.inl ?_)⟩;unfold qy;rw[if_pos g9]
theorem qt1{prev:Bool}{t:qc}{L:List (qc×Bool)}{n:Nat}{rec:Int}(h:qy t=1):ko prev t true L n rec=0:=by
 unfold ko;rw[if_neg (by simp[h]),if_pos Om]
theorem ql2:∀(ls:List qc)(prev:Bool)(now x:zh),blkR prev now ls=some x->now.kind=3->x.kind=3
 | [],_,now,x,h,hk=>by cases h;exact hk
 |t::r,prev,now,x,h,hk=>by
  rw[blkR]at h;split at h
  .cases h
  .split at h
   .exact ql2 r _ _ _ h rfl
   .exact ql2 r _ _ _ h hk
theorem qsb:∀(ls:List qc)(prev:Bool)(now x:zh),blkR prev now ls=some x->x.raw=now.raw++zk ls
 | [],_,now,x,h=>by cases h;simp[zk]
 |t::r,prev,now,x,h=>by
  rw[blkR]at h;split at h
  .cases h
  .split at h
   .rw[qsb r _ _ _ h,ye];simp
   .rw[qsb r _ _ _ h,ye];simp
def qp9(x:zh):Prop:=x.kind=3∧x.fields≠[]∨x.kind=2∧x.fields=[]
theorem qng:∀(ls:List qc)(k:Nat)(prev:Bool)(now x:zh)(rec:Int)(out:List zh)(rest:List (qc×Bool)),q2o rest->blkR prev now ls=some x->qp9 now->(now.kind=2->x.kind=3->rec<400)->
  (∃prev',refL k (trL ls++rest) prev now rec out=refL (k+ls.length) rest prev' x (if now.kind=2∧x.kind=3 then rec+1 else rec) out)∧qp9 x
 | [],k,prev,now,x,rec,out,rest,hs,h,hk,hr=>by
  cases h
  refine⟨⟨prev,?_⟩,hk⟩;rw[if_neg Om]
  rfl
 |t::r,k,prev,now,x,rec,out,rest,hs,h,hk,hr=>by
  rw[blkR]at h;split at h
  .cases h
  .rename_i hc
   simp only[not_or,Classical.not_not]at hc
   have hrec:qy t=4->now.fields.length=0->rec<400:=λh4 h0=>by
    rw[if_pos h4]at h;rcases hk with hk|hk
    .exact absurd (Zm.1 h0) hk.2
    .exact hr hk.1 (ql2 r _ _ _ h rfl)
   have hw:ko prev t true (trL r++rest) now.fields.length rec=0:=by
    rw[qpr _ _ _ _ _ _ hs];exact zhk hc.1 hrec
   have e8:trL (t::r)++rest=(t,true)::(trL r++rest):=rfl;rw[e8,refL,if_neg (by simp[hw]),if_neg hc.2];split at h
   .rename_i h4
    rw[if_pos h4,qmj r rest hs];have hx3:=ql2 r _ _ _ h rfl;obtain⟨⟨p',e⟩,hkx⟩:=qng r (k+1) _ _ x (if now.kind=2 then rec+1 else rec) out rest hs h (.inl ⟨rfl,Sx⟩) Sx;refine⟨⟨p',?_⟩,hkx⟩;rw[e,if_neg Sx];simp only[hx3,and_true,Qo];congr 1;omega
   .rename_i h4
    rw[if_neg h4];obtain⟨⟨p',e⟩,hkx⟩:=qng r (k+1) _ _ x rec out rest hs h hk hr;refine⟨⟨p',?_⟩,hkx⟩;rw[e,Qo];congr 1;omega
theorem qy9:∀(L:List (qc×Bool))(k:Nat)(prev:Bool)(now:zh)(rec:Int)(out its:List zh),refL k L prev now rec out=(none,its)->
  ∃(ls:List qc)(rest:List (qc×Bool))(prev':Bool)(x:zh)(rec':Int)(k':Nat),L=trL ls++rest∧q2o rest∧blkR prev now ls=some x∧refL k' rest prev' x rec' out=(none,its)∧∀t∈ls,10∉t
 | [],k,prev,now,rec,out,its,h=>⟨[],[],prev,now,rec,k,rfl,trivial,rfl,h,Sx⟩
 |(t,e)::r,k,prev,now,rec,out,its,h=>by
  have h0:=h;rw[refL]at h;split at h
  .simp at h
  .rename_i hw
   have hw:=Classical.not_not.1 hw;obtain⟨rfl,g9⟩:=zhj hw;split at h
   .rename_i h1
    exact⟨[],(t,true)::r,prev,now,rec,k,rfl,h1,rfl,h0,Sx⟩
   .rename_i h1
    split at h
    .rename_i h4
     obtain⟨ls,rest,p',x,rc,k',rfl,hs,hb,hr,pq⟩:=qy9 r _ _ _ _ _ _ h;rw[qmj ls rest hs]at hb;rw[qpr _ _ _ _ _ _ hs]at hw;refine⟨t::ls,rest,p',x,rc,k',rfl,hs,?_,hr,by simpa using⟨g9,pq⟩⟩;rw[blkR,if_neg (by simp[qyc hw,h1]),if_pos h4];exact hb
    .rename_i h4
     obtain⟨ls,rest,p',x,rc,k',rfl,hs,hb,hr,pq⟩:=qy9 r _ _ _ _ _ _ h;rw[qpr _ _ _ _ _ _ hs]at hw;refine⟨t::ls,rest,p',x,rc,k',rfl,hs,?_,hr,by simpa using⟨g9,pq⟩⟩;rw[blkR,if_neg (by simp[qyc hw,h1]),if_neg h4];exact hb
def qa6(x:zh):Prop:=(∃t,x=⟨1,t++[10],[]⟩∧qy t=1)∨∃ls,ls≠[]∧blkR false now0 ls=some x∧∀t∈ls,10∉t
theorem q1a(out:List zh):outR now0 out=out:=rfl
theorem q01{t:qc}(h:qy t=1):10∉t:=λg9=>by
 unfold qy at h;rw[if_pos g9]at h;omega
theorem zgm:∀(n:Nat)(L:List (qc×Bool))(k:Nat)(rec:Int)(out its:List zh),L.length<=n->refL k L false now0 rec out=(none,its)->(∀x∈out,qa6 x)->∀x∈its,qa6 x:=by
 intro n
 induction n with
 |zero=>
  intro L k rec out its hn h ho;have:L=[]:=Zm.1 Om;subst this;have h:(none,outR now0 out)=(none,its):=h;simp only[Zs,true_and]at h;subst h
  exact ho
 |succ n ih=>
  intro L k rec out its hn h ho;obtain⟨ls,rest,p',x,rc,k',rfl,hs,hb,hr,pq⟩:=qy9 L _ _ _ _ _ _ h
  have hout:∀y∈outR x out,qa6 y:=λy hy=>by
   unfold outR at hy;split at hy
   .exact ho y hy
   .rename_i hx
    rcases Qu.1 hy with hy|hy
    .exact ho y hy
    .simp only[Qj,Qm,or_false]at hy
     subst hy;refine .inr ⟨ls,λe=>hx ?_,hb,pq⟩;subst e
     cases hb
     rfl
  cases rest with
  |nil=>
   have hr:(none,outR x out)=(none,its):=hr;simp only[Zs,true_and]at hr;subst hr
   exact hout
  |cons y r=>
   obtain⟨t,e⟩:=y;have h1:qy t=1:=hs;rw[refL]at hr;split at hr
   .simp at hr
   .try rw[if_pos h1]at hr
    refine ih r _ _ _ _ (by simp at hn;omega) hr λy hy=>?_;rcases Qu.1 hy with hy|hy
    .exact hout y hy
    .simp only[Qj,Qm,or_false]at hy
     subst hy;exact .inl ⟨t,rfl,h1⟩
theorem qrj{text:qc}(h:(ji text).1=none):∀x∈(ji text).2,qa6 x:=by
 refine zgm _ (zp text) 0 0 [] _ (Zv _) ((qei text).trans (Xb h rfl)) Sx
theorem q79{fs:List Fld}(hg:GF fs)(b9:fs≠[]):qa6 ⟨3,zy fs,fs⟩:=by
 have h:=qxd hg b9;exact qrj (by rw[h]) _ (by rw[h];simp)
def SepI:List zh->Prop
 | []=>True
 | [_]=>True
 |x::y::r=>(x.kind≠1->y.kind=1)∧SepI (y::r)
def cntI(its:List zh):Nat:=its.countP λx=>x.kind=3
theorem qq6:∀(ls:List qc)(R:qc),(∀s∈ls,10∉s)->zp (zk ls++R)=trL ls++zp R
 | [],R,_=>rfl
 |s::r,R,h=>by
  have hs:=h s Sx;have e:zk (s::r)++R=s++10::(zk r++R):=by rw[ye];simp
  rw[e,wh Sx,v7 _ hs,xv _ hs,qq6 r R λx hx=>h x (by simp[hx])];simp[trL]
theorem qtn{t:qc}{R:qc}(h:10∉t):zp (t++[10]++R)=(t,true)::zp R:=by
 have:=qq6 [t] R (by simpa using h)
 simpa[zk,trL]using this
theorem qtj{x:zh}(h:qa6 x):x.kind=1∧(∃t,x=⟨1,t++[10],[]⟩∧qy t=1)∨qp9 x∧x.raw≠[]∧∃ls,ls≠[]∧blkR false now0 ls=some x∧∀t∈ls,10∉t:=by
 rcases h with⟨t,rfl,ht⟩|⟨ls,b9,hb,pq⟩
 .exact .inl ⟨rfl,t,rfl,ht⟩
 .refine .inr ⟨(qng ls 0 false now0 x 0 [] [] trivial hb (.inr ⟨rfl,rfl⟩) Om).2,?_,ls,b9,hb,pq⟩
  rw[qsb _ _ _ _ hb]
  cases ls with
  |nil=>exact absurd rfl b9
  |cons t r=>simp[zk,now0]
theorem qo7:∀(its:List zh)(k:Nat)(rec:Int)(out:List zh),(∀x∈its,qa6 x)->SepI its->rec+cntI its<=400->refL k (zp (wi its)) false now0 rec out=(none,out++its)
 | [],k,rec,out,_,_,_=>by
  have:wi []=[]:=rfl;rw[this,vu]
  simp[refL,q1a]
 |x::r,k,rec,out,hok,hsep,hc=>by
  have hraw:wi (x::r)=x.raw++wi r:=rfl;rw[hraw];rcases qtj (hok x Sx)with⟨br,t,rfl,ht⟩|⟨hkx,hrx,ls,b9,hb,pq⟩
  .rw[qtn (q01 ht),refL,if_neg (by rw[qt1 ht];simp),if_pos ht,q1a]
   have hs:SepI r:=by cases r with|nil=>trivial|cons y q=>exact hsep.2
   have:=qo7 r (k+1) rec (out++[⟨1,t++[10],[]⟩]) (λy hy=>hok y (by simp[hy])) hs (by simpa[cntI]using hc);rw[show(⟨2,[],[]⟩:zh)=now0 from rfl,this];simp
  .have hx1:x.kind≠1:=by rcases hkx with h|h<;>omega
   have hc3:x.kind=3->rec<400:=λh=>by simp[cntI,h]at hc;omega
   have hre:x.raw=zk ls:=by rw[qsb _ _ _ _ hb];rfl
   rw[hre,qq6 ls _ pq]
   match r,hok,hsep,hc with
   | [],hok,hsep,hc=>
    have:wi []=[]:=rfl;rw[this,vu];obtain⟨⟨p',e⟩,_⟩:=qng ls k false now0 x rec out [] trivial hb (.inr ⟨rfl,rfl⟩) λ_ h=>hc3 h;rw[e,refL];unfold outR
    rw[if_neg hrx]
   |y::q,hok,hsep,hc=>
    have hy1:=hsep.1 hx1;rcases qtj (hok y Sx)with⟨_,t,rfl,ht⟩|⟨rp,_⟩
    .have hraw:wi (⟨1,t++[10],[]⟩::q)=(t++[10])++wi q:=rfl
     rw[hraw,qtn (q01 ht)];obtain⟨⟨p',e⟩,_⟩:=qng ls k false now0 x rec out ((t,true)::zp (wi q)) ht hb (.inr ⟨rfl,rfl⟩) λ_ h=>hc3 h;rw[e,refL,if_neg (by rw[qt1 ht];simp),if_pos ht];have hs:SepI q:=by cases q with|nil=>trivial|cons z q'=>exact hsep.2.2
     have ho:outR x out=out++[x]:=by unfold outR;rw[if_neg hrx]
     rw[ho,show(⟨2,[],[]⟩:zh)=now0 from rfl]
     have sf:(if now0.kind=2∧x.kind=3 then rec+1 else rec)+(cntI q:Int)<=400:=by
      simp only[cntI,Zw]at hc⊢;by_cases h3:x.kind=3
      .rw[if_pos ⟨rfl,h3⟩]
       simp[h3]at hc;omega
      .rw[if_neg λh=>h3 h.2]
       simp[h3]at hc;omega
     rw[qo7 q _ _ _ (λy hy=>hok y (by simp[hy])) hs sf];simp
    .exfalso
     rcases rp with h|h<;>omega
theorem qb4(a b:List zh):cntI (a++b)=cntI a+cntI b:=by simp[cntI]
theorem x9(x:zh)(b:List zh):cntI (x::b)=(if x.kind=3 then 1 else 0)+cntI b:=by
 simp only[cntI,Zw,decide_eq_true_eq];omega
theorem qzw:∀(its:List zh)(prev:Bool),SepI (vn prev its)∧(prev=true->∀x,(vn prev its).head?=some x->x.kind=1)
 | [],prev=>⟨trivial,by simp[vn]⟩
 |x::r,prev=>by
  obtain⟨h1,h2⟩:=qzw r (decide (x.kind≠1))
  have key:SepI (x::vn (decide (x.kind≠1)) r):=by
   cases hq:vn (decide (x.kind≠1)) r with
   |nil=>trivial
   |cons y q=>
    rw[hq]at h1 h2;exact⟨λhk=>h2 (by simpa using hk) y rfl,h1⟩
  rw[vn];by_cases hp:prev=true∧x.kind≠1
  .rw[if_pos hp]
   exact⟨⟨λh=>absurd rfl h,key⟩,λ_ y hy=>by simp at hy;subst hy;rfl⟩
  .rw[if_neg hp]
   exact⟨key,λhpr y hy=>by
    simp at hy;subst hy
    exact Classical.byContradiction λh=>hp ⟨hpr,h⟩⟩
theorem q3q:∀(its:List zh)(prev:Bool),(∀x∈its,qa6 x)->(∀x∈vn prev its,qa6 x)∧cntI (vn prev its)=cntI its
 | [],prev,_=>by simp[vn]
 |x::r,prev,h=>by
  obtain⟨h1,h2⟩:=q3q r (decide (x.kind≠1)) λy hy=>h y (by simp[hy]);have hx:=h x Sx;have dn:qa6 ⟨1,[10],[]⟩:=.inl ⟨[],rfl,by decide⟩;rw[vn];split
  .refine⟨λy hy=>?_,by simp only[Zf,Qy,x9];rw[h2];try simp⟩
   simp only[Zf,Qy,Qj]at hy;rcases hy with rfl|rfl|hy
   .exact dn
   .exact hx
   .exact h1 y hy
  .refine⟨λy hy=>?_,by simp only[Zf,Qy,x9];rw[h2];try simp⟩
   simp only[Zf,Qy,Qj]at hy;rcases hy with rfl|hy
   .exact hx
   .exact h1 y hy
theorem q55{its:List zh}(h:∀x∈its,qa6 x)(hc:cntI its<=400):ji (wi (qb3 its))=(none,qb3 its):=by
 obtain⟨h1,h2⟩:=q3q its false h;have:=qo7 (qb3 its) 0 0 [] h1 (qzw its false).1 (by unfold qb3;rw[h2];omega);rw[Qy]at this;rw[<-qei];exact this
theorem q51{now:zh}{out:List zh}(hk:qp9 now)(hr:now.kind=3->now.raw≠[]):(cntI (outR now out):Int)=(cntI out:Int)+(if now.kind=3 then 1 else 0):=by
 have h0:cntI []=0:=rfl;unfold outR;by_cases he:now.raw=[]
 .rw[if_pos he,if_neg λh=>hr h he]
  omega
 .rw[if_neg he,qb4,x9,h0]
  by_cases h3:now.kind=3
  .rw[if_pos h3,if_pos h3];omega
  .rw[if_neg h3,if_neg h3];omega
theorem qsn:∀(L:List (qc×Bool))(k:Nat)(prev:Bool)(now:zh)(rec:Int)(out its:List zh),refL k L prev now rec out=(none,its)->qp9 now->(now.kind=3->now.raw≠[])->(cntI out:Int)+(if now.kind=3 then 1 else 0)=rec->rec<=400->cntI its<=400
 | [],k,prev,now,rec,out,its,h,hk,hr,hc,hm=>by
  have h:(none,outR now out)=(none,its):=h;simp only[Zs,true_and]at h;subst h;have:=q51 (out:=out) hk hr
  omega
 |(t,e)::r,k,prev,now,rec,out,its,h,hk,hr,hc,hm=>by
  rw[refL]at h;split at h
  .simp at h
  .rename_i hw
   have hw:=Classical.not_not.1 hw;split at h
   .refine qsn r _ _ _ _ _ _ h (.inr ⟨rfl,rfl⟩) Sx ?_ hm
    have:=q51 (out:=out) hk hr;rw[qb4,x9,show cntI []=0 from rfl,if_neg (by omega:¬(1:Int)=3),if_neg (by omega:¬(2:Int)=3)];omega
   .split at h
    .rename_i h4
     refine qsn r _ _ _ _ _ _ h (.inl ⟨rfl,Sx⟩) Sx ?_ ?_
     .rcases hk with hk|hk
      .rw[if_pos hk.1]at hc
       rw[if_pos rfl,if_neg Om];exact hc
      .rw[if_neg Om]at hc
       rw[if_pos rfl,if_pos hk.1];omega
     .rcases hk with hk|hk
      .rw[if_neg Om];exact hm
      .rw[if_pos hk.1]
       unfold ko at hw;split at hw
       .omega
       .rw[if_neg Om]at hw
        split at hw
        .omega
        .split at hw
         .omega
         .rename_i hf
          have:now.fields.length=0:=by rw[hk.2];rfl
          omega
    .exact qsn r _ _ _ _ _ _ h hk (λh3=>by simp) hc hm
theorem zfx{text:qc}(h:(ji text).1=none):cntI (ji text).2<=400:=
 qsn (zp text) 0 false now0 0 [] _ ((qei text).trans (Xb h rfl)) (.inr ⟨rfl,rfl⟩) (by simp[now0]) (by simp[cntI,now0]) Om
structure GL (l:qu):Prop where
 ok:∀e∈l.ents,qa6 e.x∧(0<e.id↔e.x.kind=3)
 nx:1<=l.next
 mn:l.many=cntI (jv l)
 le:cntI (jv l)<=400
theorem zfn{l:qu}{x:zh}(h:GL l)(hx:qa6 x)(hc:cntI (jv l)+cntI [x]<=400):GL (x4 l x):=by
 obtain⟨h1,h2,h3,h4⟩:=h;rw[x9]at hc;unfold x4;by_cases hk:x.kind=3
 .rw[if_pos hk]
  refine⟨λe he=>?_,by simp only;omega,?_,?_⟩
  .rcases Qu.1 he with he|he
   .exact h1 e he
   .simp only[Qj,Qm,or_false]at he
    subst he;exact⟨hx,λ_=>hk,λ_=>by show 0<l.next;omega⟩
  .simp only[jv,Qq,qb4,Zc,Zl,x9]at h3⊢
   rw[if_pos hk];simp[cntI]at h3⊢;omega
  .rw[if_pos hk]at hc
   simp only[jv,Qq,qb4,Zc,Zl,x9]at hc⊢;rw[if_pos hk];exact hc
 .rw[if_neg hk]
  refine⟨λe he=>?_,h2,?_,?_⟩
  .rcases Qu.1 he with he|he
   .exact h1 e he
   .simp only[Qj,Qm,or_false]at he
    subst he;exact⟨hx,by simp[hk]⟩
  .simp only[jv,Qq,qb4,Zc,Zl,x9]at h3⊢
   rw[if_neg hk];simp[cntI]at h3⊢;omega
  .rw[if_neg hk]at hc
   simp only[jv,Qq,qb4,Zc,Zl,x9]at hc⊢;rw[if_neg hk];exact hc
theorem q8e(l:qu)(x:zh):jv (x4 l x)=jv l++[x]:=by
 unfold x4 jv;split <;>simp
theorem q08:∀(its:List zh)(l:qu),GL l->(∀x∈its,qa6 x)->cntI (jv l)+cntI its<=400->GL (its.foldl x4 l)
 | [],l,h,_,_=>h
 |x::r,l,h,hx,hc=>by
  rw[x9]at hc;refine q08 r (x4 l x) (zfn h (hx x Sx) ?_) (λy hy=>hx y (by simp[hy])) ?_
  .rw[x9,show cntI []=0 from rfl];omega
  .rw[q8e,qb4,x9]
   rw[show cntI []=0 from rfl];omega
theorem zoe{its:List zh}(hx:∀x∈its,qa6 x)(hc:cntI its<=400):GL (ofF its):=
 q08 its ⟨[],1,0⟩ ⟨Sx,Sx,by simp[jv,cntI],by simp[jv,cntI]⟩ hx (by simpa[jv,cntI]using hc)
theorem q59{fs:List Fld}(h:z4 fs=.no):qa6 (yn fs)∧(yn fs).kind=3:=by
 obtain⟨h1,h2,h3⟩:=qcm h;unfold yn;rw[if_pos h];exact⟨q79 ⟨h2,h3⟩ h1,rfl⟩
theorem qqo{l:List zh}{i:Nat}{x:zh}(h:l[i]?=some x):cntI l=cntI (l.take i)+(if x.kind=3 then 1 else 0)+cntI (l.drop (i+1)):=by
 obtain⟨d8,rfl⟩:=Qz.1 h;have:=congrArg cntI (Qi i l);rw[qb4,Qf d8,x9]at this;omega
theorem q6t{l:qu}(h:GL l)(id:Int)(fs:List Fld):GL (xg l id fs).2:=by
 unfold xg;split
 .exact h
 .rename_i ha
  split
  .rename_i hf
   obtain⟨hp,rq⟩:=q59 hf;rcases qfu l id with g|⟨i,e,g1,g2,g3,g4⟩
   .omega
   .rw[g1,Qh]
    unfold qh0;rw[g2];simp only;have hem:=Zg g2;obtain⟨d8,fp⟩:=Qz.1 g2;have hek:e.x.kind=3:=(h.ok e hem).2.1 Om
    have pg:cntI ((l.ents.set i ⟨yn fs,e.id⟩).map λe=>e.x)=cntI (l.ents.map λe=>e.x):=by
     have a1:=qqo (l:=l.ents.map λe=>e.x) (i:=i) (x:=e.x) (by simp[g2]);have a2:=qqo (l:=(l.ents.set i ⟨yn fs,e.id⟩).map λe=>e.x) (i:=i) (x:=yn fs) (by simp[d8]);rw[a1,a2,<-Zb,<-Zb,<-Zj,<-Zj,List.take_set_of_le (Zv _),List.drop_set_of_lt Om,hek,rq]
    refine⟨λy hy=>?_,h.nx,?_,?_⟩
    .rcases List.mem_or_eq_of_mem_set hy with hy|rfl
     .exact h.ok y hy
     .exact⟨hp,λ_=>rq,λ_=>by show 0<e.id;omega⟩
    .exact h.mn.trans (congrArg Int.ofNat pg).symm
    .exact Xa (Nat.le_of_eq pg) h.le
  .exact h
theorem q9o{l:qu}(h:GL l)(id:Int):GL (delF l id).2:=by
 unfold delF;split
 .exact h
 .rcases qfu l id with g|⟨i,e,g1,g2,g3,g4⟩
  .omega
  .rw[g1,Qh]
   have hem:=Zg g2;have hek:e.x.kind=3:=(h.ok e hem).2.1 Om;have a1:=qqo (l:=jv l) (i:=i) (x:=e.x) (by simp[jv,g2]);rw[hek,if_pos rfl]at a1
   have a2:cntI (jv (delL l i))=cntI ((jv l).take i)+cntI ((jv l).drop (i+1)):=by
    unfold delL jv;rw[Qq,qb4,Zb,Zj]
   have hm:=h.mn;have hl:=h.le;refine⟨λy hy=>?_,h.nx,?_,?_⟩
   .rcases Qu.1 hy with hy|hy
    .exact h.ok y (Zh hy)
    .exact h.ok y (Zr hy)
   .rw[a2]
    show l.many-1=_
    omega
   .rw[a2]
    omega
theorem q92{l:qu}(h:GL l)(id:Int)(fs:List Fld):GL (insF l id fs).2.2:=by
 unfold insF;split
 .exact h
 .split
  .rename_i hf
   obtain⟨hp,rq⟩:=q59 hf;split
   .exact h
   .rename_i hm4
    generalize(atF l id+1).toNat=k
    have a1:cntI (jv (insL l k (yn fs)))=cntI (jv l)+1:=by
     unfold insL jv;rw[Qq,qb4,Zc,x9,rq,if_pos rfl,Zb,Zj];have:=congrArg cntI (Qi k (l.ents.map λe=>e.x));rw[qb4]at this;omega
    have hm:=h.mn;have hl:=h.le;have hn:=h.nx;refine⟨λy hy=>?_,?_,?_,?_⟩
    .rcases Qu.1 hy with hy|hy
     .exact h.ok y (Zh hy)
     .rcases Qj.1 hy with rfl|hy
      .exact⟨hp,λ_=>rq,λ_=>by show 0<l.next;omega⟩
      .exact h.ok y (Zr hy)
    .show 1<=l.next+1
     omega
    .rw[a1]
     show l.many+1=_
     omega
    .rw[a1]
     omega
  .exact h
theorem qy1{l:qu}(h:GL l)(x:qp):GL (oneF l x).2.2:=by
 unfold oneF;split
 .exact q6t h _ _
 .split
  .exact q9o h _
  .exact q92 h _ _
theorem q0d:∀(b:List qp)(k:Nat)(l:qu)(ids:List Int),GL l->GL (kg k b l ids).2.1
 | [],_,l,_,h=>h
 |x::r,k,l,ids,h=>by
  unfold kg;split
  .exact q0d r _ _ _ (qy1 h x)
  .exact h
theorem q38{l:qu}(h:GL l)(b:List qp):GL (doF l b).2.1:=by
 unfold doF;split
 .exact q0d b 0 l [] h
 .exact h
theorem qtp:∀(bs:List (List qp))(r:RunV),GL r.l->GL (z0 bs r).2.l
 | [],r,h=>h
 |b::bs,r,h=>by
  unfold z0;split
  .exact qtp bs _ (q38 h b)
  .first|exact q38 h b|exact h
theorem q8l{text:qc}(h:jw text=.no):(ji text).1=none∧text.length<=60000∧itsE text=(ji text).2:=by
 unfold jw at h;unfold itsE;split at h
 .simp at h
 .rename_i hl
  rw[if_neg hl];refine⟨?_,Om,rfl⟩
  cases hp:(ji text).1 with
  |none=>rfl
  |some x=>rw[hp]at h;simp at h
theorem zjq(base:qc)(bs:List (List qp))(h:jw base=.no):GL (z8 base bs).2.l:=by
 obtain⟨h1,h2,h3⟩:=q8l h;unfold z8;rw[if_pos h];refine qtp bs _ (zoe ?_ ?_)
 .rw[h3];exact qrj h1
 .rw[h3];exact zfx h1
end Go.Pl
namespace Go.Pl
open Go Go.Proofs
def cntF(es:List EntV):Nat:=es.countP λe=>decide (0<e.id)
theorem qqn(es:List EntV)(e:EntV):cntF (es++[e])=cntF es+if 0<e.id then 1 else 0:=by
 unfold cntF;rw[List.countP_append];by_cases h:0<e.id<;>simp[h]
theorem zlo(es:List EntV):cntF es<=es.length:=List.countP_le_length
end Go.Pl
namespace Go.Proofs.YtihlchbgjdkmpaaGreatDoor
open Go Go.Av Go.RowKit Go.Proofs Go.Pl
theorem qlh{a b c d:AV}(h1:Pure a)(h2:Pure b)(h3:Pure c)(h4:Pure d):Pure (.tu [a,b,c,d]):=qeh λz hz=>by
 simp only[Qj,Qm,or_false]at hz;rcases hz with rfl|rfl|rfl|rfl
 .exact h1
 .exact h2
 .exact h3
 .exact h4
@[reducible] def qhq (es : List EntV) : AV := .sl 4 (es.map entA) none
@[reducible] def xb (l : qu) : AV := .ag [qhq l.ents, Iv l.next]
theorem zb5(es:List EntV):Pure (qhq es):=qaz λx hx=>by
 obtain⟨f,_,rfl⟩:=Zt.1 hx;exact qoi f
theorem y9(l:qu):Pure (xb l):=qak λy hy=>by
 simp only[AV.cells,Qj,Qm,or_false]at hy;rcases hy with rfl|rfl
 .exact zb5 _
 .exact qt _
def ofR(text:qc):qu:=if jw text=.no then ofF (itsE text)else⟨[],0,0⟩
theorem q8v{text:qc}(h:jw text=.no):qcv text=.tu [vr (itsE text),Iv (-9),Iv 0]:=by
 unfold qcv itsE;unfold jw at h;split
 .rename_i hb
  rw[if_pos hb]at h;simp at h
 .rename_i hb
  rw[if_neg hb]at h;rcases hp:(ji text).1 with _|⟨a,n⟩
  .rfl
  .rw[hp]at h
   simp at h
theorem zgd(text:qc)(st:List AObj)(hl:text.length<1000000):qr E 77 [Sv text] st λr st'=>r=.tu [xb (ofR text),Iv (jw text).pos,Iv (jw text).code]∧st'=st:=by
 refine zj [.s text] (qad (y9 _) (qt _) (qt _)) Tryz.func77 rfl rfl (λ_=>rfl) rfl λS0=>?_;unfold ofR;by_cases gm:jw text=.no
 .have hp:=λst=>qrq text st hl
  rw[q8v gm]at hp;have dg:=qus text;rw[gm,if_pos rfl];generalize itsE text=its at hp dg;have hmi:(its.map kq).length=its.length:=Sx
  apply qf [];repeat' (first|apply Qa|(intro h;try exact cDd)|exact⟨Tryz.call128⟩|refine cpe hp ?_|exact cSd|apply qd []|refine exr ?_|refine qg ?_)
  refine zx (X:=Nat×qu) (λ(k,l)=>⟨[(2,.bx 0 0),(5,.a (vr its)),(6,.i (-9)),(8,.bx 1 0),(9,.i k)],[(0,some (.cells 108 [.a zn,.i 0])),(1,some (.cells 108 [.tp 2,.i l.next])),(2,some (.tip 4 232 (l.ents.map entA)))],3⟩)
   (λ(k,l)=>k<=its.length∧l.ents.length=k∧(1<=l.next∧l.next<=k+1)∧(its.drop k).foldl x4 l=ofF its) (λ(k,l)=>its.length-k) (0,⟨[],1,0⟩) ⟨Om,rfl,⟨by decide,by decide⟩,rfl⟩ ?_ ?_
  .skip
   repeat' (first|apply Qa|(intro h;try exact cDd)|exact cSd|apply qd []|refine exr ?_|refine qg ?_)
   all_goals (simp;done)
  .rintro⟨k,l⟩ ⟨hk,sw,bv,a8⟩
   by_cases e9:k<its.length
   .have hx:its[k]?=some its[k]:=Qc e9
    have i3:(its.map kq)[k]?=some (kq its[k]):=by rw[Qd,hx];rfl
    rw[Qf e9,Zo]at a8;have o0:(l.ents.map entA).length=l.ents.length:=Sx
    generalize its[k]=x at hx i3 a8;by_cases gk:x.kind=3
    .have e:x4 l x=⟨l.ents++[⟨x,l.next⟩],l.next+1,l.many+1⟩:=if_pos gk
     rw[e]at a8;apply qf [];repeat' (first|apply Qa|(intro h;try exact cDd)|(refine Qb (k) ⟨Om,_,i3,?_⟩)|(refine Qb (k+1,⟨l.ents++[⟨x,l.next⟩],l.next+1,l.many+1⟩) ⟨⟨Om,by simp[sw],by simp only;omega,a8⟩,by simp only;omega,?_⟩)|exact cSd|apply qd []|refine exr ?_|refine qg ?_)
     all_goals (simp;done)
    .have e:x4 l x=⟨l.ents++[⟨x,0⟩],l.next,l.many⟩:=if_neg gk
     rw[e]at a8;apply qf [];repeat' (first|apply Qa|(intro h;try exact cDd)|(refine Qb (k) ⟨Om,_,i3,?_⟩)|(refine Qb (k+1,⟨l.ents++[⟨x,0⟩],l.next,l.many⟩) ⟨⟨Om,by simp[sw],by simp only;omega,a8⟩,by simp only;omega,?_⟩)|exact cSd|apply qd []|refine exr ?_|refine qg ?_)
     all_goals (simp;done)
   .have e9:k=its.length:=by omega
    subst e9;rw[Qt]at a8;have e:ofF its=l:=a8.symm;rw[e];apply qf [];repeat' (first|apply Qa|(intro h;try exact cDd)|exact cSd|apply qd []|refine exr ?_|refine qg ?_)
 .obtain⟨its,p,n,lq,hp,hn,gv⟩:=qrr text hl
  have hz:n≠0:=λh=>gm (gv.1 h);rw[if_neg gm,<-hp,<-hn];apply qf [];repeat' (first|apply Qa|(intro h;try exact cDd)|exact⟨Tryz.call128⟩|refine cpe lq ?_|exact cSd|apply qd []|refine exr ?_|refine qg ?_)
theorem qnc(l:qu)(id:Int)(st:List AObj)(hl:l.ents.length<1000000):qr E 134 [xb l,Iv id] st λr st'=>r=Iv (atF l id)∧st'=st:=by
 refine zj [.a (xb l),.i id] (qt _) Tryz.func134 rfl rfl (λ_=>rfl) rfl λS0=>?_;unfold atF;obtain⟨es,nx,mn⟩:=l;dsimp only at hl⊢;have hmi:(es.map entA).length=es.length:=Sx
 apply qf [];repeat' (first|apply Qa|(intro h;try exact cDd)|exact cSd|apply qd []|refine exr ?_|refine qg ?_)
 refine zx (X:=Nat) (λk=>⟨[(1,.i id),(2,.a (.pp [qhq es,Iv nx])),(5,.i k)],[],0⟩) (λk=>k<=es.length∧(0<id->xc id k (es.drop k)=xc id 0 es)) (λk=>es.length-k) 0 ⟨Om,Sx⟩ ?_ ?_
 .skip
  repeat' (first|apply Qa|(intro h;try exact cDd)|exact cSd|apply qd []|refine exr ?_|refine qg ?_)
  all_goals (simp;done)
 .rintro k ⟨hk,a8⟩
  by_cases h1:id<1
  .rw[if_pos h1]
   apply qf [];repeat' (first|apply Qa|(intro h;try exact cDd)|exact cSd|apply qd []|refine exr ?_|refine qg ?_)
  .rw[if_neg h1]
   have a8:=a8 Om;by_cases e9:k<es.length
   .have hx:es[k]?=some es[k]:=Qc e9
    have i3:(es.map entA)[k]?=some (entA es[k]):=by rw[Qd,hx];rfl
    rw[Qf e9,xc]at a8;generalize es[k]=e at hx i3 a8;by_cases cr:e.id=id
    .rw[if_pos cr]at a8
     rw[<-a8];apply qf [];repeat' (first|apply Qa|(intro h;try exact cDd)|(refine Qb (k) ⟨Om,_,i3,?_⟩)|exact cSd|apply qd []|refine exr ?_|refine qg ?_)
    .rw[if_neg cr]at a8
     apply qf [];repeat' (first|apply Qa|(intro h;try exact cDd)|(refine Qb (k) ⟨Om,_,i3,?_⟩)|(refine Qb (k+1) ⟨⟨Om,λ_=>a8⟩,Om,?_⟩)|exact cSd|apply qd []|refine exr ?_|refine qg ?_)
   .have e9:k=es.length:=by omega
    subst e9;rw[Qt,xc]at a8;rw[<-a8];apply qf [];repeat' (first|apply Qa|(intro h;try exact cDd)|exact cSd|apply qd []|refine exr ?_|refine qg ?_)
theorem zc3(l:qu)(st:List AObj)(hl:l.ents.length<1000000):qr E 190 [xb l] st λr st'=>r=Iv (cntF l.ents)∧st'=st:=by
 refine zj [.a (xb l)] (qt _) Tryz.func190 rfl rfl (λ_=>rfl) rfl λS0=>?_;obtain⟨es,nx,mn⟩:=l;dsimp only at hl⊢;have hmi:(es.map entA).length=es.length:=Sx
 apply qf [];repeat' (first|apply Qa|(intro h;try exact cDd)|exact cSd|apply qd []|refine exr ?_|refine qg ?_)
 refine zx (X:=Nat) (λk=>⟨[(1,.a (.pp [qhq es,Iv nx])),(3,.i (cntF (es.take k):Nat)),(4,.i k)],[],0⟩) (λk=>k<=es.length) (λk=>es.length-k) 0 Om ?_ ?_
 .skip
  repeat' (first|apply Qa|(intro h;try exact cDd)|exact cSd|apply qd []|refine exr ?_|refine qg ?_)
  all_goals (simp[cntF];done)
 .rintro k hk
  by_cases e9:k<es.length
  .have hx:es[k]?=some es[k]:=Qc e9
   have i3:(es.map entA)[k]?=some (entA es[k]):=by rw[Qd,hx];rfl
   have i6:es.take (k+1)=es.take k++[es[k]]:=by rw[Qr,hx];rfl
   have hct:=qqn (es.take k) es[k];have gr:=zlo (es.take k);have hcl2:(es.take k).length<=k:=So
   rw[<-i6]at hct;generalize es[k]=e at hx i3 hct;by_cases h0:0<e.id
   .rw[if_pos h0]at hct
    apply qf [];repeat' (first|apply Qa|(intro h;try exact cDd)|(refine Qb (k) ⟨Om,_,i3,?_⟩)|(refine Qb (k+1) ⟨Om,Om,?_⟩)|exact cSd|apply qd []|refine exr ?_|refine qg ?_)
    all_goals (simp[hct];done)
   .rw[if_neg h0]at hct
    apply qf [];repeat' (first|apply Qa|(intro h;try exact cDd)|(refine Qb (k) ⟨Om,_,i3,?_⟩)|(refine Qb (k+1) ⟨Om,Om,?_⟩)|exact cSd|apply qd []|refine exr ?_|refine qg ?_)
    all_goals (simp[hct];done)
  .have e9:k=es.length:=by omega
   subst e9;rw[Qw];apply qf [];repeat' (first|apply Qa|(intro h;try exact cDd)|exact cSd|apply qd []|refine exr ?_|refine qg ?_)
theorem qtt(fs:List Fld)(st:List AObj)(h:q2m fs):qr E 189 [jl fs] st λr st'=>r=kq ⟨3,zy fs,fs⟩∧st'=st:=by
 refine zj [.a (jl fs)] (qak (qi1 _)) Tryz.func189 rfl rfl (λ_=>rfl) rfl λS0=>?_;have h1:=λst=>qxp fs st h;apply qf [];repeat' (first|apply Qa|(intro h;try exact cDd)|exact⟨Tryz.call91⟩|refine cpe h1 ?_|exact cSd|apply qd []|refine exr ?_|refine qg ?_)
end Go.Proofs.YtihlchbgjdkmpaaGreatDoor
namespace Go.Pl
open Go Go.Proofs Go.Av
def dlF(i:Nat)(es:List EntV)(k:Nat):List EntV:=(es.take k).take i++(es.take k).drop (i+1)
theorem znt{i:Nat}{es:List EntV}{k:Nat}{e:EntV}(h:es[k]?=some e):dlF i es (k+1)=dlF i es k++if k=i then []else [e]:=by
 have hk:=lt_of_getElem? h;have hl:(es.take k).length=k:=So
 unfold dlF;rw[Qr,h];simp only[Zu];rw[Zx,Zk,hl];by_cases mg:k=i
 .subst mg
  rw[if_pos rfl];have e1:(es.take k).drop (k+1)=[]:=Ql Om;simp[e1]
 .rw[if_neg mg]
  by_cases d8:k<i
  .have e1:(es.take k).drop (i+1)=[]:=Ql Om
   obtain⟨d,hd⟩:∃d,i-k=d+1:=⟨i-k-1,Om⟩;have hd2:i+1-k=d+1+1:=Om
   rw[e1,hd,hd2];simp
  .have hd:i-k=0:=by omega
   have hd2:i+1-k=0:=Om
   rw[hd,hd2];simp
def inF(j:Nat)(x:EntV)(es:List EntV)(k:Nat):List EntV:=(es.take k).take j++if j<=k then x::(es.take k).drop j else []
theorem zn0{j:Nat}{x:EntV}{es:List EntV}{k:Nat}{e:EntV}(h:es[k]?=some e):inF j x es (k+1)=inF j x es k++e::if j=k+1 then [x]else []:=by
 have hk:=lt_of_getElem? h;have hl:(es.take k).length=k:=So
 unfold inF;rw[Qr,h];simp only[Zu];rw[Zx,Zk,hl];by_cases hjk:j=k+1
 .subst hjk
  have e1:(es.take k).drop (k+1)=[]:=Ql Om;have e2:k+1-k=1:=Om
  rw[if_pos (Zv _),if_pos rfl,if_neg Om,e1,e2];simp
 .rw[if_neg hjk]
  by_cases d8:j<=k
  .have hd:j-k=0:=by omega
   rw[if_pos Om,if_pos d8,hd];simp
  .obtain⟨d,hd⟩:∃d,j-k=d+1:=⟨j-k-1,Om⟩
   rw[if_neg Om,if_neg d8,hd];simp
end Go.Pl
namespace Go.Proofs.YtihlchbgjdkmpaaGreatDoor
open Go Go.Av Go.RowKit Go.Proofs Go.Pl
def rlR(l:qu)(e:ErrV):AV:=.tu [xb l,Iv e.pos,Iv e.code]
theorem zj9(l:qu)(e:ErrV):Pure (rlR l e):=qad (y9 _) (qt _) (qt _)
theorem qv6(fs:List Fld)(h:z4 fs≠.no):∃p n,(z4 fs).pos=p∧(z4 fs).code=n∧n≠0:=⟨_,_,rfl,rfl,λh'=>h ((qk0 fs).1 h')⟩
theorem q8y(l:qu)(id:Int)(fs:List Fld)(st:List AObj)(hl:l.ents.length<1000000)(hK:KeyB fs)(o7:fs.length<1000000):qr E 131 [xb l,Iv id,jl fs] st λr st'=>r=rlR (xg l id fs).2 (xg l id fs).1∧st'=st:=by
 refine zj [.a (xb l),.i id,.a (jl fs)] (zj9 _ _) Tryz.func131 rfl rfl (λ_=>rfl) rfl λS0=>?_;have h1:=λst=>qnc l id st hl;have hmi:(l.ents.map entA).length=l.ents.length:=Sx
 have h2:=λst=>qlj fs st hK Om;unfold xg rlR;rcases qfu l id with h|⟨i,e,h,he,cr,hid1⟩
 .rw[h]at h1⊢
  rw[if_pos (by decide)];apply qf [];repeat' (first|apply Qa|(intro h;try exact cDd)|exact⟨Tryz.call134⟩|refine cpe h1 ?_|exact cSd|apply qd []|refine exr ?_|refine qg ?_)
 .rw[h]at h1⊢
  rw[if_neg Om];have dg:=lt_of_getElem? he;by_cases hc:z4 fs=.no
  .rw[hc]at h2
   obtain⟨_,g3,g4⟩:=qcm hc;have h3:=λst=>qtt fs st (qwv g3 g4);rw[if_pos hc];unfold qh0 yn;rw[if_pos hc,Qh,he];simp only
   have i4:∀k e',l.ents[k]?=some e'->(l.ents.set i ⟨⟨3,zy fs,fs⟩,e.id⟩).take (k+1)=(l.ents.set i ⟨⟨3,zy fs,fs⟩,e.id⟩).take k++[if k=i then⟨⟨3,zy fs,fs⟩,e.id⟩else e']:=λk e' h=>by
    have hk:=lt_of_getElem? h;rw[Qr];congr 1;by_cases mg:k=i
    .subst mg
     rw[if_pos rfl,List.getElem?_set_self hk]
     try rfl
    .rw[if_neg mg,Qk (λh=>mg h.symm),h]
     rfl
   have gp:(l.ents.set i ⟨⟨3,zy fs,fs⟩,e.id⟩).length=l.ents.length:=Sx
   generalize l.ents.set i ⟨⟨3,zy fs,fs⟩,e.id⟩=es' at i4 gp;apply qf [];repeat' (first|apply Qa|(intro h;try exact cDd)|exact⟨Tryz.call134⟩|refine cpe h1 ?_|exact⟨Tryz.call188⟩|refine cpe h2 ?_|exact cSd|apply qd []|refine exr ?_|refine qg ?_)
   refine zx (X:=Nat) (λk=>⟨[(2,.a (jl fs)),(3,.a (.pp [qhq l.ents,Iv l.next])),(6,.bx 0 0),(9,.i i),(12,.bx 1 0),(13,.i k)],[(0,some (.cells 108 [.a zn,.i 0])),(1,some (.cells 108 [.tp 2,.i l.next])),(2,some (.tip 4 232 ((es'.take k).map entA)))],3⟩)
    (λk=>k<=l.ents.length) (λk=>l.ents.length-k) 0 Om ?_ ?_
   .skip
    repeat' (first|apply Qa|(intro h;try exact cDd)|exact cSd|apply qd []|refine exr ?_|refine qg ?_)
    all_goals first|rfl|(simp;done)
   .rintro k hk
    by_cases e9:k<l.ents.length
    .have hx:l.ents[k]?=some l.ents[k]:=Qc e9
     have i3:(l.ents.map entA)[k]?=some (entA l.ents[k]):=by rw[Qd,hx];rfl
     have i6:=i4 k _ hx;have htl:((es'.take k).map entA).length<=k:=So
     by_cases mg:k=i
     .have hee:l.ents[k]=e:=by
       have h1:=he;rw[<-mg,hx]at h1
       simpa using h1
      rw[hee]at hx i3;rw[if_pos mg]at i6;apply qf [];repeat' (first|apply Qa|(intro h;try exact cDd)|(refine Qb (k) ⟨Om,_,i3,?_⟩)|exact⟨Tryz.call189⟩|refine cpe h3 ?_|(refine Qb (k+1) ⟨Om,Om,?_⟩)|exact absurd mg Om|exact cSd|apply qd []|refine exr ?_|refine qg ?_)
      all_goals first|(rw[i6];simp;done)|omega|(simp;omega)
     .rw[if_neg mg]at i6
      generalize l.ents[k]=e' at hx i3 i6;apply qf [];repeat' (first|apply Qa|(intro h;try exact cDd)|(refine Qb (k) ⟨Om,_,i3,?_⟩)|(refine Qb (k+1) ⟨Om,Om,?_⟩)|exact absurd Om mg|exact cSd|apply qd []|refine exr ?_|refine qg ?_)
      all_goals first|(rw[i6];simp;done)|omega|(simp;omega)
    .have e9:k=l.ents.length:=by omega
     subst e9;rw[Zp Om];apply qf [];repeat' (first|apply Qa|(intro h;try exact cDd)|exact cSd|apply qd []|refine exr ?_|refine qg ?_)
  .obtain⟨p,n,hp,hn,gv⟩:=qv6 fs hc
   rw[hp,hn]at h2;rw[if_neg hc,hp,hn];apply qf [];repeat' (first|apply Qa|(intro h;try exact cDd)|exact⟨Tryz.call134⟩|refine cpe h1 ?_|exact⟨Tryz.call188⟩|refine cpe h2 ?_|exact cSd|apply qd []|refine exr ?_|refine qg ?_)
theorem zc1(l:qu)(id:Int)(st:List AObj)(hl:l.ents.length<1000000):qr E 132 [xb l,Iv id] st λr st'=>r=.tu [xb (delF l id).2,Iv (delF l id).1.code]∧st'=st:=by
 refine zj [.a (xb l),.i id] (kc (y9 _) (qt _)) Tryz.func132 rfl rfl (λ_=>rfl) rfl λS0=>?_;have h1:=λst=>qnc l id st hl;have hmi:(l.ents.map entA).length=l.ents.length:=Sx
 unfold delF;rcases qfu l id with h|⟨i,e,h,he,cr,hid1⟩
 .rw[h]at h1⊢
  rw[if_pos (by decide)];apply qf [];repeat' (first|apply Qa|(intro h;try exact cDd)|exact⟨Tryz.call134⟩|refine cpe h1 ?_|exact cSd|apply qd []|refine exr ?_|refine qg ?_)
 .rw[h]at h1⊢
  rw[if_neg Om,Qh];unfold delL;simp only;have fm:dlF i l.ents l.ents.length=l.ents.take i++l.ents.drop (i+1):=by unfold dlF;rw[Qw]
  have lj:∀k,k<=l.ents.length->((dlF i l.ents k).map entA).length<=k:=λk hk=>by
   simp[dlF];omega
  rw[<-fm];apply qf [];repeat' (first|apply Qa|(intro h;try exact cDd)|exact⟨Tryz.call134⟩|refine cpe h1 ?_|exact cSd|apply qd []|refine exr ?_|refine qg ?_)
  refine zx (X:=Nat) (λk=>⟨[(2,.a (.pp [qhq l.ents,Iv l.next])),(4,.bx 0 0),(6,.i i),(7,.bx 1 0),(8,.i k)],[(0,some (.cells 108 [.a zn,.i 0])),(1,some (.cells 108 [.tp 2,.i l.next])),(2,some (.tip 4 232 ((dlF i l.ents k).map entA)))],3⟩)
   (λk=>k<=l.ents.length) (λk=>l.ents.length-k) 0 Om ?_ ?_
  .skip
   repeat' (first|apply Qa|(intro h;try exact cDd)|exact cSd|apply qd []|refine exr ?_|refine qg ?_)
   all_goals first|rfl|(simp[dlF];done)|(simp[dlF];rfl)
  .rintro k hk
   by_cases e9:k<l.ents.length
   .have hx:l.ents[k]?=some l.ents[k]:=Qc e9
    have i3:(l.ents.map entA)[k]?=some (entA l.ents[k]):=by rw[Qd,hx];rfl
    have i6:=znt (i:=i) hx;have htl:=lj k hk;rw[Qg]at htl;generalize l.ents[k]=e' at hx i3 i6;by_cases mg:k=i
    .rw[if_pos mg,Qp]at i6
     apply qf [];repeat' (first|apply Qa|(intro h;try exact cDd)|(refine Qb (k+1) ⟨Om,Om,?_⟩)|exact absurd mg Om|exact cSd|apply qd []|refine exr ?_|refine qg ?_)
     all_goals first|(rw[i6];done)|omega|(simp;omega)
    .rw[if_neg mg]at i6
     apply qf [];repeat' (first|apply Qa|(intro h;try exact cDd)|(refine Qb (k) ⟨Om,_,i3,?_⟩)|(refine Qb (k+1) ⟨Om,Om,?_⟩)|exact absurd Om mg|exact cSd|apply qd []|refine exr ?_|refine qg ?_)
     all_goals first|(rw[i6];simp;done)|omega|(simp;omega)
   .have e9:k=l.ents.length:=by omega
    subst e9;apply qf [];repeat' (first|apply Qa|(intro h;try exact cDd)|exact cSd|apply qd []|refine exr ?_|refine qg ?_)
def rlR4(l:qu)(n:Int)(e:ErrV):AV:=.tu [xb l,Iv n,Iv e.pos,Iv e.code]
theorem zgh(l:qu)(n:Int)(e:ErrV):Pure (rlR4 l n e):=qlh (y9 _) (qt _) (qt _) (qt _)
set_option maxHeartbeats 4000000 in
theorem zc2(l:qu)(id:Int)(fs:List Fld)(st:List AObj)(hl:l.ents.length<1000000)(hn:1<=l.next∧l.next<1000000)(hM:l.many=cntF l.ents)(hK:KeyB fs)(o7:fs.length<1000000):qr E 133 [xb l,Iv id,jl fs] st λr st'=>r=rlR4 (insF l id fs).2.2 (insF l id fs).1 (insF l id fs).2.1∧st'=st:=by
 refine zj [.a (xb l),.i id,.a (jl fs)] (zgh _ _ _) Tryz.func133 rfl rfl (λ_=>rfl) rfl λS0=>?_;have h1:=λst=>qnc l id st hl;have hmi:(l.ents.map entA).length=l.ents.length:=Sx
 have h2:=λst=>qlj fs st hK Om;have h3:=λst=>zc3 l st hl;unfold insF rlR4;rw[hM];rcases Decidable.em (atF l id<0∧id≠0)with hb|hb
 .rw[if_pos hb]
  obtain⟨r6,t6⟩:=hb;generalize atF l id=a at r6 h1;apply qf [];repeat' (first|apply Qa|(intro h;try exact cDd)|exact⟨Tryz.call134⟩|refine cpe h1 ?_|exact cSd|apply qd []|refine exr ?_|refine qg ?_)
 .rw[if_neg hb]
  obtain⟨a,j,ha,hj,hjl,hor⟩:∃(a:Int)(j:Nat),atF l id=a∧a+1=(j:Int)∧j<=l.ents.length∧(0<=a∨a= -1∧id=0):=by
   rcases qfu l id with h|⟨i,e,h,he,_⟩
   .exact⟨-1,0,h,rfl,Om,.inr ⟨rfl,Decidable.not_not.1 λh0=>hb ⟨Om,h0⟩⟩⟩
   .have:=lt_of_getElem? he
    exact⟨i,i+1,h,rfl,Om,.inl Om⟩
  rw[ha]at h1 hb⊢;rw[hj,Qh];by_cases hc:z4 fs=.no
  .rw[hc]at h2
   rw[if_pos hc];by_cases hm:400<=(cntF l.ents:Int)
   .rw[if_pos hm]
    generalize cntF l.ents=m at h3 hm;rcases hor with hor|⟨hor,hor2⟩
    .apply qf []
     repeat' (first|apply Qa|(intro h;try exact cDd)|exact⟨Tryz.call134⟩|refine cpe h1 ?_|exact⟨Tryz.call188⟩|refine cpe h2 ?_|exact⟨Tryz.call190⟩|refine cpe h3 ?_|exact cSd|apply qd []|refine exr ?_|refine qg ?_)
    .apply qf []
     repeat' (first|apply Qa|(intro h;try exact cDd)|exact⟨Tryz.call134⟩|refine cpe h1 ?_|exact⟨Tryz.call188⟩|refine cpe h2 ?_|exact⟨Tryz.call190⟩|refine cpe h3 ?_|exact cSd|apply qd []|refine exr ?_|refine qg ?_)
   .rw[if_neg hm]
    generalize cntF l.ents=m at h3 hm;obtain⟨_,g3,g4⟩:=qcm hc;have h4:=λst=>qtt fs st (qwv g3 g4);unfold insL yn;rw[if_pos hc];simp only
    have fm:inF j ⟨⟨3,zy fs,fs⟩,l.next⟩ l.ents l.ents.length=l.ents.take j++⟨⟨3,zy fs,fs⟩,l.next⟩::l.ents.drop j:=by
     unfold inF;rw[Qw,if_pos hjl]
    have lj:∀k,k<=l.ents.length->((inF j ⟨⟨3,zy fs,fs⟩,l.next⟩ l.ents k).map entA).length<=k+1:=λk hk=>by
     unfold inF;split
     .simp
      omega
     .simp
      omega
    rw[<-fm]
    have h0:0<=a->inF j ⟨⟨3,zy fs,fs⟩,l.next⟩ l.ents 0=[]:=λh=>by
     unfold inF;rw[if_neg Om];simp
    have h00:a= -1->inF j ⟨⟨3,zy fs,fs⟩,l.next⟩ l.ents 0=[⟨⟨3,zy fs,fs⟩,l.next⟩]:=λh=>by
     unfold inF;rw[if_pos Om];simp
    have e8:=λk e'=>zn0 (j:=j) (x:=⟨⟨3,zy fs,fs⟩,l.next⟩) (es:=l.ents) (k:=k) (e:=e');generalize inF j ⟨⟨3,zy fs,fs⟩,l.next⟩ l.ents=iF at lj h0 h00 e8;rcases hor with hor|⟨hor,hor2⟩
    .have h0:=h0 hor
     clear h00;apply qf [];repeat' (first|apply Qa|(intro h;try exact cDd)|exact⟨Tryz.call134⟩|refine cpe h1 ?_|exact⟨Tryz.call188⟩|refine cpe h2 ?_|exact⟨Tryz.call190⟩|refine cpe h3 ?_|exact⟨Tryz.call189⟩|refine cpe h4 ?_|exact cSd|apply qd []|refine exr ?_|refine qg ?_)
     refine zx (X:=Nat) (λk=>⟨[(3,.a (.pp [qhq l.ents,Iv l.next])),(6,.bx 0 0),(10,.i a),(13,.bx 1 0),(14,.bx 2 0),(15,.i k)],[(0,some (.cells 108 [.a zn,.i 0])),(1,some (.cells 108 [.tp 3,.i (l.next+1)])),(2,some (.cells 232 [.i 3,.s (zy fs),.a (jl fs),.i l.next])),(3,some (.tip 4 232 ((iF k).map entA)))],4⟩)
      (λk=>k<=l.ents.length) (λk=>l.ents.length-k) 0 Om ?_ ?_
     .skip
      repeat' (first|apply Qa|(intro h;try exact cDd)|exact cSd|apply qd []|refine exr ?_|refine qg ?_)
      all_goals first|rfl|(simp[h0];done)|(simp[h0];rfl)
     .rintro k hk
      by_cases e9:k<l.ents.length
      .have hx:l.ents[k]?=some l.ents[k]:=Qc e9
       have i3:(l.ents.map entA)[k]?=some (entA l.ents[k]):=by rw[Qd,hx];rfl
       have i6:=e8 k _ hx;have htl:=lj k hk;rw[Qg]at htl;generalize l.ents[k]=e' at hx i3 i6;by_cases mg:j=k+1
       .rw[if_pos mg]at i6
        apply qf [];repeat' (first|apply Qa|(intro h;try exact cDd)|(refine Qb (k) ⟨Om,_,i3,?_⟩)|(refine Qb (k+1) ⟨Om,Om,?_⟩)|exact absurd mg Om|exact cSd|apply qd []|refine exr ?_|refine qg ?_)
        all_goals first|(rw[i6];simp;done)|omega|(simp;omega)
       .rw[if_neg mg]at i6
        apply qf [];repeat' (first|apply Qa|(intro h;try exact cDd)|(refine Qb (k) ⟨Om,_,i3,?_⟩)|(refine Qb (k+1) ⟨Om,Om,?_⟩)|exact absurd Om mg|exact cSd|apply qd []|refine exr ?_|refine qg ?_)
        all_goals first|(rw[i6];simp;done)|omega|(simp;omega)
      .have e9:k=l.ents.length:=by omega
       subst e9;apply qf [];repeat' (first|apply Qa|(intro h;try exact cDd)|exact cSd|apply qd []|refine exr ?_|refine qg ?_)
    .have hz:=h00 hor
     clear h00 h0;subst hor;apply qf [];repeat' (first|apply Qa|(intro h;try exact cDd)|exact⟨Tryz.call134⟩|refine cpe h1 ?_|exact⟨Tryz.call188⟩|refine cpe h2 ?_|exact⟨Tryz.call190⟩|refine cpe h3 ?_|exact⟨Tryz.call189⟩|refine cpe h4 ?_|exact cSd|apply qd []|refine exr ?_|refine qg ?_)
     refine zx (X:=Nat) (λk=>⟨[(3,.a (.pp [qhq l.ents,Iv l.next])),(6,.bx 0 0),(10,.i (-1)),(13,.bx 1 0),(14,.bx 2 0),(15,.i k)],[(0,some (.cells 108 [.a zn,.i 0])),(1,some (.cells 108 [.tp 3,.i (l.next+1)])),(2,some (.cells 232 [.i 3,.s (zy fs),.a (jl fs),.i l.next])),(3,some (.tip 4 232 ((iF k).map entA)))],4⟩)
      (λk=>k<=l.ents.length) (λk=>l.ents.length-k) 0 Om ?_ ?_
     .skip
      repeat' (first|apply Qa|(intro h;try exact cDd)|exact cSd|apply qd []|refine exr ?_|refine qg ?_)
      all_goals first|rfl|(simp[hz];done)|(simp[hz];rfl)
     .rintro k hk
      by_cases e9:k<l.ents.length
      .have hx:l.ents[k]?=some l.ents[k]:=Qc e9
       have i3:(l.ents.map entA)[k]?=some (entA l.ents[k]):=by rw[Qd,hx];rfl
       have i6:=e8 k _ hx;have htl:=lj k hk;rw[Qg]at htl;generalize l.ents[k]=e' at hx i3 i6;rw[if_neg Om]at i6;apply qf [];repeat' (first|apply Qa|(intro h;try exact cDd)|(refine Qb (k) ⟨Om,_,i3,?_⟩)|(refine Qb (k+1) ⟨Om,Om,?_⟩)|exact cSd|apply qd []|refine exr ?_|refine qg ?_)
       all_goals first|(rw[i6];simp;done)|omega|(simp;omega)
      .have e9:k=l.ents.length:=by omega
       subst e9;apply qf [];repeat' (first|apply Qa|(intro h;try exact cDd)|exact cSd|apply qd []|refine exr ?_|refine qg ?_)
  .obtain⟨p,n,hp,hn,gv⟩:=qv6 fs hc
   rw[hp,hn]at h2;rw[if_neg hc,hp,hn];rcases hor with hor|⟨hor,hor2⟩
   .apply qf []
    repeat' (first|apply Qa|(intro h;try exact cDd)|exact⟨Tryz.call134⟩|refine cpe h1 ?_|exact⟨Tryz.call188⟩|refine cpe h2 ?_|exact cSd|apply qd []|refine exr ?_|refine qg ?_)
   .apply qf []
    repeat' (first|apply Qa|(intro h;try exact cDd)|exact⟨Tryz.call134⟩|refine cpe h1 ?_|exact⟨Tryz.call188⟩|refine cpe h2 ?_|exact cSd|apply qd []|refine exr ?_|refine qg ?_)
end Go.Proofs.YtihlchbgjdkmpaaGreatDoor
namespace Go.Pl
open Go Go.Proofs Go.Av
def LM(l:qu):Prop:=l.many=cntF l.ents
theorem qh9(a b:List EntV):cntF (a++b)=cntF a+cntF b:=by simp[cntF]
theorem ql3(e:EntV)(b:List EntV):cntF (e::b)=(if 0<e.id then 1 else 0)+cntF b:=by
 by_cases h:0<e.id<;>simp[cntF,h]<;>omega
theorem zek{l:List EntV}{i:Nat}{e:EntV}(h:l[i]?=some e):l=l.take i++e::l.drop (i+1):=by
 obtain⟨hi,rfl⟩:=Qz.1 h;rw[<-Qf hi,Qi]
theorem zj7{l:qu}(h:LM l)(id:Int)(fs:List Fld):LM (xg l id fs).2:=by
 unfold xg;split
 .exact h
 .split
  .unfold qh0
   split
   .rename_i e he
    unfold LM at h⊢;simp only;rw[h];have h1:=zek he;have hi:=lt_of_getElem? he;rw[List.set_eq_take_append_cons_drop,if_pos hi]
    conv=>lhs;rw[h1]
    rw[qh9,qh9,ql3,ql3]
   .exact h
  .exact h
theorem zlu{l:qu}(h:LM l)(id:Int):LM (delF l id).2:=by
 unfold delF;split
 .exact h
 .rename_i hn
  rcases qfu l id with g|⟨i,e,g,he,cr,hid1⟩
  .exact absurd (by rw[g];decide) hn
  .rw[g,Qh]
   unfold LM delL at *;simp only;rw[h];have h1:=zek he
   conv=>lhs;rw[h1]
   rw[qh9,qh9,ql3,if_pos Om];omega
theorem zl7{l:qu}(h:LM l)(hn:1<=l.next)(id:Int)(fs:List Fld):LM (insF l id fs).2.2:=by
 unfold insF;split
 .exact h
 .split
  .split
   .exact h
   .unfold LM insL at *
    simp only;rw[h,qh9,ql3,if_pos (by simp only;omega)]
    conv=>lhs;rw[<-Qi (atF l id+1).toNat l.ents]
    rw[qh9];omega
  .exact h
theorem q5x:∀(its:List zh)(l:qu),LM l->1<=l.next->LM (its.foldl x4 l)∧1<=(its.foldl x4 l).next
 | [],l,h,hn=>⟨h,hn⟩
 |x::r,l,h,hn=>by
  rw[Zo];unfold x4;split
  .refine q5x r _ ?_ (by simp only;omega)
   unfold LM at *;simp only;rw[qqn,if_pos (by simp only;omega),h];omega
  .refine q5x r _ ?_ hn
   unfold LM at *;simp only;rw[qqn,if_neg Sx,h];omega
theorem zfk(its:List zh):LM (ofF its):=(q5x its ⟨[],1,0⟩ (by simp[LM,cntF]) (by decide)).1
end Go.Pl
namespace Go.Proofs.YtihlchbgjdkmpaaGreatDoor
open Go Go.Av Go.RowKit Go.Proofs Go.Pl
theorem zal{l:qu}(h:LM l)(hn:1<=l.next)(x:qp):LM (oneF l x).2.2:=by
 unfold oneF;split
 .exact zj7 h _ _
 .split
  .exact zlu h _
  .exact zl7 h hn _ _
theorem q0h:∀(b:List qp)(k n:Nat)(l:qu)(ids:List Int),LM l->LB n l->n+b.length<900000->LM (kg k b l ids).2.1
 | [],k,n,l,ids,h,_,_=>h
 |x::r,k,n,l,ids,h,hB,hs=>by
  simp only[Qo]at hs;unfold kg;split
  .exact q0h r (k+1) (n+1) _ _ (zal h hB.nx0 x) (qnu hB Om x) Om
  .exact h
theorem zep{n:Nat}{l:qu}(h:LM l)(hB:LB n l)(hs:n+40<900000)(b:List qp):LM (doF l b).2.1:=by
 unfold doF;split
 .rename_i he
  obtain⟨h1,h2,_⟩:=qcd he;exact q0h b 0 n l [] h hB Om
 .exact h
theorem zc5(n:Nat)(l:qu)(x:qp)(st:List AObj)(hB:LB n l)(hM:LM l)(hK:KeyB x.fields)(hl:x.fields.length<1000000):qr E 79 [xb l,zz x] st λr st'=>r=.tu [xb (oneF l x).2.2,Iv (oneF l x).1,Iv (oneF l x).2.1.code]∧st'=st:=by
 refine zj [.a (xb l),.a (zz x)] (qad (y9 _) (qt _) (qt _)) Tryz.func79 rfl rfl (λ_=>rfl) rfl λS0=>?_;have g1:=hB.len;have g2:=hB.nx0;have g3:=hB.nx1;have g4:=hB.small;unfold oneF;by_cases h1:x.kind=1
 .rw[if_pos h1]
  have hc:=λst=>q8y l x.id x.fields st Om hK hl;unfold rlR at hc;generalize xg l x.id x.fields=r at hc;apply qf [];repeat' (first|apply Qa|(intro h;try exact cDd)|exact⟨Tryz.call131⟩|refine cpe hc ?_|exact cSd|apply qd []|refine exr ?_|refine qg ?_)
 .rw[if_neg h1]
  by_cases h2:x.kind=2
  .rw[if_pos h2]
   have hc:=λst=>zc1 l x.id st Om;generalize delF l x.id=r at hc;apply qf [];repeat' (first|apply Qa|(intro h;try exact cDd)|exact⟨Tryz.call132⟩|refine cpe hc ?_|exact cSd|apply qd []|refine exr ?_|refine qg ?_)
  .rw[if_neg h2]
   have hc:=λst=>zc2 l x.id x.fields st Om ⟨Om,Om⟩ hM hK hl;unfold rlR4 at hc;generalize insF l x.id x.fields=r at hc;apply qf [];repeat' (first|apply Qa|(intro h;try exact cDd)|exact⟨Tryz.call133⟩|refine cpe hc ?_|exact cSd|apply qd []|refine exr ?_|refine qg ?_)
def doR(l:qu)(r:ErrV×qu×List Int):AV:=if r.1=.no then .tu [xb r.2.1,wn r.2.2,Iv (-9),Iv 0]else .tu [xb l,wn [],Iv r.1.pos,Iv r.1.code]
theorem zid(l:qu)(r:ErrV×qu×List Int):Pure (doR l r):=by
 unfold doR;split
 .exact qlh (y9 _) (qcr _) (qt _) (qt _)
 .exact qlh (y9 _) (qcr _) (qt _) (qt _)
theorem zga(n:Nat)(l:qu)(b:List qp)(st:List AObj)(hB:LB n l)(hM:LM l)(hn:n+40<900000)(hE:∀x∈b,EdB x)(hl:b.length<1000000):qr E 78 [xb l,zr b] st λr st'=>r=doR l (doF l b)∧st'=st:=by
 refine zj [.a (xb l),.a (zr b)] (zid _ _) Tryz.func78 rfl rfl (λ_=>rfl) rfl λS0=>?_;have bf:=λst=>qro b st hE Om;have hmi:(b.map zz).length=b.length:=Sx
 unfold doF;by_cases he:eErr b=.no
 .rw[he]at bf
  rw[if_pos he];obtain⟨r6,hb40,hg⟩:=qcd he;apply qf [];repeat' (first|apply Qa|(intro h;try exact cDd)|exact⟨Tryz.call83⟩|refine cpe bf ?_|exact cSd|apply qd []|refine exr ?_|refine qg ?_)
  refine zx (X:=Nat×qu×List Int) (λ(k,q,ids)=>⟨[(1,.a (zr b)),(2,.a (.pp [qhq l.ents,Iv l.next])),(4,.bx 0 0),(10,.bx 1 0),(11,.tp 2),(12,.i k)],[(0,some (.cells 108 [.a zn,.i 0])),(1,some (.cells 108 [.a (qhq q.ents),.i q.next])),(2,some (.tip 1 3 (ids.map λx=>Iv x)))],3⟩)
   (λ(k,q,ids)=>k<=b.length∧LB (n+k) q∧LM q∧ids.length<=k∧kg k (b.drop k) q ids=kg 0 b l []) (λ(k,q,ids)=>b.length-k) (0,l,[]) ⟨Om,hB,hM,Sx,rfl⟩ ?_ ?_
  .skip
   repeat' (first|apply Qa|(intro h;try exact cDd)|exact cSd|apply qd []|refine exr ?_|refine qg ?_)
   all_goals first|rfl|(simp;done)
  .rintro⟨k,q,ids⟩ ⟨hk,hq,hqm,dg,a8⟩
   by_cases e9:k<b.length
   .have hx:b[k]?=some b[k]:=Qc e9
    have i3:(b.map zz)[k]?=some (zz b[k]):=by rw[Qd,hx];rfl
    have hxE:=hE b[k] (Qs e9);have hxf:=(qgv (hg b[k] (Qs e9))).1;rw[Qf e9,kg]at a8;have hidl:(ids.map λx=>Iv x).length=ids.length:=Sx
    generalize b[k]=x at hx i3 hxE hxf a8;have mz:=λst=>zc5 (n+k) q x st hq hqm hxE.keys Om;have rf:=qnu hq Om x;have hlm:=zal hqm hq.nx0 x;have gq:=λh=>qrf (l:=q) (x:=x) h;generalize oneF q x=o at mz rf hlm gq a8;obtain⟨id,e,q'⟩:=o;dsimp only at mz rf hlm gq a8;by_cases bg:e=.no
    .subst bg
     rw[if_pos rfl]at a8;by_cases h0:0<id
     .rw[if_pos h0]at a8
      apply qf [];repeat' (first|apply Qa|(intro h;try exact cDd)|(refine Qb (k) ⟨Om,_,i3,?_⟩)|exact⟨Tryz.call79⟩|refine cpe mz ?_|(refine Qb (k+1,q',ids++[id]) ⟨⟨Om,rf,hlm,So,a8⟩,by simp only;omega,?_⟩)|exact cSd|apply qd []|refine exr ?_|refine qg ?_)
      all_goals first|(simp;done)|(simp;omega)
     .rw[if_neg h0]at a8
      apply qf [];repeat' (first|apply Qa|(intro h;try exact cDd)|(refine Qb (k) ⟨Om,_,i3,?_⟩)|exact⟨Tryz.call79⟩|refine cpe mz ?_|(refine Qb (k+1,q',ids) ⟨⟨Om,rf,hlm,by first|omega|(simp only;omega),a8⟩,by simp only;omega,?_⟩)|exact cSd|apply qd []|refine exr ?_|refine qg ?_)
      all_goals first|(simp;done)|(simp;omega)
    .rw[if_neg bg]at a8
     rw[<-a8];have gq:=gq bg
     have hA:doR l (ErrV.at' (↑k) e.code,q,ids)=.tu [xb l,wn [],Iv k,Iv e.code]:=by
      unfold doR;rw[if_neg Sx]
      try rfl
     rw[hA];generalize ErrV.code e=c at mz gq;apply qf [];repeat' (first|apply Qa|(intro h;try exact cDd)|(refine Qb (k) ⟨Om,_,i3,?_⟩)|exact⟨Tryz.call79⟩|refine cpe mz ?_|exact cSd|apply qd []|refine exr ?_|refine qg ?_)
   .have e9:k=b.length:=by omega
    subst e9;rw[Qt,kg]at a8;rw[<-a8];unfold doR;rw[if_pos rfl];apply qf [];repeat' (first|apply Qa|(intro h;try exact cDd)|exact cSd|apply qd []|refine exr ?_|refine qg ?_)
 .obtain⟨p,m,hp,hm,h0⟩:=zlx b
  have hz:m≠0:=λh=>he (h0.1 h);rw[if_neg he];unfold doR;simp only;rw[if_neg he];rw[hp,hm]at bf⊢;apply qf [];repeat' (first|apply Qa|(intro h;try exact cDd)|exact⟨Tryz.call83⟩|refine cpe bf ?_|exact cSd|apply qd []|refine exr ?_|refine qg ?_)
end Go.Proofs.YtihlchbgjdkmpaaGreatDoor
