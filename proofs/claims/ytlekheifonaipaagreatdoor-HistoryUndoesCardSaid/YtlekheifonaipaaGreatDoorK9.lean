/- Contracts and plain facts that the closing text leans on (part 9). No condition of their own beyond those that each states. -/
import Derived.Test.YtlekheifonaipaaGreatDoorK8
set_option maxRecDepth 100000
set_option linter.unusedVariables false
set_option linter.unusedSimpArgs false
open And renaming intro→Qa
open Exists renaming intro→Qb
open Int renaming toNat_natCast→Qh
open List renaming getElem?_eq_getElem→Qc,getElem?_map→Qd,length_append→Qe,length_map→Qf,drop_eq_getElem_cons→Qg,mem_cons→Qi,getElem?_set_ne→Qj,drop_eq_nil_of_le→Qk,not_mem_nil→Ql,take_append_drop→Qn,append_nil→Qo,map_append→Qp,take_add_one→Qq,drop_length→Qr,length_cons→Qs,mem_append→Qt,append_assoc→Qu,take_length→Qv,getElem?_append_left→Qw,nil_append→Qx,map_take→Qz,map_cons→Za,getElem_mem→Zb,length_take→Zc,length_drop→Zd,cons_append→Ze,mem_of_getElem?→Zf,mem_of_mem_take→Zg,take_left→Zh,map_drop→Zi,getElem?_eq_some_iff→Zj,drop_append→Zk,map_nil→Zl,length_eq_zero_iff→Zm,take_of_length_le→Zo,length_filter_le→Zp,mem_of_mem_drop→Zq,mem_map→Zs,countP_cons→Zv,take_append→Zw,foldl_cons→Zx,drop_left→Zy,set_set→Zz
open Nat renaming le_of_ble_eq_true→Qm,min_eq_left→Zn,le_refl→Zu,le_trans→Xa
open Option renaming toList_some→Zt
open Option.some renaming injEq→Qy
open Prod renaming ext→Xb
open Prod.mk renaming injEq→Zr
namespace Go.Pl
open Go Go.Proofs
def xb(id:Int):Nat->List EntV->Int
 |_,[]=> -1
 |k,e::r=>if e.id=id then(k:Int)else xb id (k+1) r
def atF(l:qs)(id:Int):Int:=if id<1 then -1 else xb id 0 l.ents
theorem qxm(id:Int):∀(es:List EntV)(k:Nat),xb id k es= -1∨∃i e,xb id k es=((k+i:Nat):Int)∧es[i]?=some e∧e.id=id
 | [],k=>.inl rfl
 |e::r,k=>by
  unfold xb;by_cases h:e.id=id
  .rw[if_pos h]
   exact .inr ⟨0,e,Sx,rfl,h⟩
  .rw[if_neg h]
   rcases qxm id r (k+1)with g|⟨i,e',g1,g2,g3⟩
   .exact .inl g
   .exact .inr ⟨i+1,e',by rw[g1];congr 1;omega,by simpa using g2,g3⟩
theorem qfw(l:qs)(id:Int):atF l id= -1∨∃(i:Nat)(e:EntV),atF l id=(i:Int)∧l.ents[i]?=some e∧e.id=id∧1<=id:=by
 unfold atF;by_cases h:id<1
 .exact .inl (if_pos h)
 .rw[if_neg h]
  rcases qxm id l.ents 0 with g|⟨i,e,g1,g2,g3⟩
  .exact .inl g
  .exact .inr ⟨i,e,by rw[g1];congr 1;omega,g2,g3,Om⟩
end Go.Pl
namespace Go.Proofs.YtlekheifonaipaaGreatDoor
open Go Go.Av Go.RowKit Go.Proofs Go.Pl
theorem zpn(e:EntV)(id:Int)(st:List AObj):qp E 185 [entA e,.pp [Iv id]] st λr st'=>r=Bv (decide (e.id=id))∧st'=st:=by
 refine ze [.a (entA e),.a (.pp [Iv id])] (qr _) Tryz.func185 rfl rfl (λ_=>rfl) rfl λS0=>?_;apply qd [];repeat' (first|apply Qa|(intro h;try exact cDd)|exact cSd|apply qb []|refine exr ?_|refine qe ?_)
@[reducible] def atFn (id : Int) : SV := .fn (.func 185) [] [.a (.pp [Iv id])]
theorem zm3(l:qs)(st:List AObj):qp E 40 [v6 l] st λr st'=>r=Iv l.next∧st'=st:=by
 refine ze [.a (v6 l)] (qr _) Tryz.func40 rfl rfl (λ_=>rfl) rfl λS0=>?_;apply qd [];repeat' (first|apply Qa|(intro h;try exact cDd)|exact cSd|apply qb []|refine exr ?_|refine qe ?_)
@[reducible] def lstH (a : Nat) (l : qs) : List (Nat × Option SR) := [(0, some (.cells 166 [.tp a, .i l.next, .i l.many])), (a, some (.own 4 168 (l.ents.map entA)))]
theorem zjm(es:List EntV)(id:Int)(hl:es.length<1000000):vb E 184 [.tp 0,atFn id] 1 (hpF [(0,some (.own 4 168 (es.map entA)))]) ⟨.i (xb id 0 es),kr [(0,some (.own 4 168 (es.map entA)))],[(0,some (.own 4 168 (es.map entA)))]++vw [(0,some (.own 4 168 (es.map entA)))],1⟩:=by
 refine xl [.tp 0,atFn id] [(0,some (.own 4 168 (es.map entA)))] 1 (.i (xb id 0 es)) [(0,some (.own 4 168 (es.map entA)))] 1 Tryz.func184 rfl rfl rfl rfl λS F ρ=>?_;have o0:(es.map entA).length=es.length:=Sx
 apply qd [];repeat' (first|apply Qa|(intro h;try exact cDd)|exact cSd|apply qb []|refine exr ?_|refine qe ?_)
 refine zw (X:=Nat) (λk=>⟨[(0,.tp 0),(1,atFn id),(7,.i es.length),(8,.i k)],[(0,some (.own 4 168 (es.map entA)))],1⟩) (λk=>k<=es.length∧xb id k (es.drop k)=xb id 0 es) (λk=>es.length-k) 0 ⟨Om,Sx⟩ ?_ ?_
 .skip
  repeat' (first|apply Qa|(intro h;try exact cDd)|exact cSd|apply qb []|refine exr ?_|refine qe ?_)
  all_goals (simp;done)
 .rintro k ⟨hk,a8⟩
  by_cases e9:k<es.length
  .have hx:es[k]?=some es[k]:=Qc e9
   have g9:(es.map entA)[k]?=some (entA es[k]):=by rw[Qd,hx];rfl
   rw[Qg e9,xb]at a8;generalize es[k]=e at hx g9 a8;have h1:=λst=>zpn e id st;by_cases cq:e.id=id
   .rw[if_pos cq]at a8
    rw[decide_eq_true cq]at h1;rw[<-a8];apply qd [];repeat' (first|apply Qa|(intro h;try exact cDd)|(refine qgn (i:=k) rfl rfl rfl rfl rfl rfl Om ?_)|(refine qik (i:=k) (j:=0) rfl rfl rfl rfl g9 rfl rfl ?_)|exact⟨Tryz.call185⟩|refine cpe h1 ?_|exact cSd|apply qb []|refine exr ?_|refine qe ?_)
   .rw[if_neg cq]at a8
    rw[decide_eq_false cq]at h1;apply qd [];repeat' (first|apply Qa|(intro h;try exact cDd)|(refine qgn (i:=k) rfl rfl rfl rfl rfl rfl Om ?_)|(refine qik (i:=k) (j:=0) rfl rfl rfl rfl g9 rfl rfl ?_)|exact⟨Tryz.call185⟩|refine cpe h1 ?_|(refine Qb (k+1) ⟨⟨Om,a8⟩,Om,?_⟩)|exact cSd|apply qb []|refine exr ?_|refine qe ?_)
  .have e9:k=es.length:=by omega
   subst e9;rw[Qr,xb]at a8;rw[<-a8];apply qd [];repeat' (first|apply Qa|(intro h;try exact cDd)|exact cSd|apply qb []|refine exr ?_|refine qe ?_)
theorem qsk(l:qs)(id:Int)(hl:l.ents.length<1000000):vb E 131 [.bx 0 0,.i id] 2 (hpF (lstH 1 l)) ⟨.i (atF l id),kr (lstH 1 l),lstH 1 l++vw (lstH 1 l),2⟩:=by
 refine xl [.bx 0 0,.i id] (lstH 1 l) 2 (.i (atF l id)) (lstH 1 l) 2 Tryz.func131 rfl rfl rfl rfl λS F ρ=>?_;unfold atF;have h1:=zjm l.ents id hl;by_cases h:id<1
 .rw[if_pos h]
  apply qd [];repeat' (first|apply Qa|(intro h;try exact cDd)|exact cSd|apply qb []|refine exr ?_|refine qe ?_)
 .rw[if_neg h]
  apply qd [];repeat' (first|apply Qa|(intro h;try exact cDd)|exact⟨Tryz.call184⟩|(refine jn h1 ?_)|exact cSd|apply qb []|refine exr ?_|refine qe ?_)
end Go.Proofs.YtlekheifonaipaaGreatDoor
namespace Go.Pl
open Go Go.Proofs
def qz6(fs:List Fld):qa:=if z0 fs=.no then zy fs else []
def yt(fs:List Fld):zg:=if z0 fs=.no then⟨3,zy fs,fs⟩else⟨0,[],[]⟩
def wm(its:List zg):qa:=its.flatMap λx=>x.raw
theorem qg7(a b:List zg):wm (a++b)=wm a++wm b:=by simp[wm]
theorem qg8(x:zg):wm [x]=x.raw:=by simp[wm]
def vo(prev:Bool):List zg->List zg
 | []=>[]
 |x::r=>(if prev=true∧x.kind≠1 then [⟨1,[10],[]⟩,x]else [x])++vo (decide (x.kind≠1)) r
def qb6(its:List zg):List zg:=vo false its
def jw(l:qs):List zg:=l.ents.map λe=>e.x
def qsz(l:qs):qa:=wm (qb6 (jw l))
end Go.Pl
namespace Go.Proofs.YtlekheifonaipaaGreatDoor
open Go Go.Av Go.RowKit Go.Proofs Go.Pl
theorem zgv(fs:List Fld)(st:List AObj)(hK:KeyB fs)(hl:fs.length<9223372036854775808):qp E 211 [jd fs] st λr st'=>r=.tu [Sv (qz6 fs),errA (z0 fs)]∧st'=st:=by
 refine ze [.a (jd fs)] (ju (qr _) (ki _)) Tryz.func211 rfl rfl (λ_=>rfl) rfl λS0=>?_;unfold qz6
 cases he:z0 fs with
 |no=>
  rw[if_pos rfl];have h1:=λst=>qpl fs st _ he hK hl;obtain⟨_,h3,h4⟩:=qcm he;have h2:=λst=>qxi fs st h3 h4;apply qd []
  repeat' (first|apply Qa|(intro h;try exact cDd)|exact⟨Tryz.call169⟩|refine cpe h1 ?_|exact⟨Tryz.call68⟩|refine cpe h2 ?_|exact cSd|apply qb []|refine exr ?_|refine qe ?_)
 |num n=>
  rw[if_neg Sx];have h1:=λst=>qpl fs st _ he hK hl;apply qd []
  repeat' (first|apply Qa|(intro h;try exact cDd)|exact⟨Tryz.call169⟩|refine cpe h1 ?_|exact cSd|apply qb []|refine exr ?_|refine qe ?_)
 |at' a n=>
  rw[if_neg Sx];have h1:=λst=>qpl fs st _ he hK hl;apply qd [];repeat' (first|apply Qa|(intro h;try exact cDd)|exact⟨Tryz.call169⟩|refine cpe h1 ?_|exact cSd|apply qb []|refine exr ?_|refine qe ?_)
theorem zbi(fs:List Fld)(st:List AObj)(hK:KeyB fs)(hl:fs.length<1000000):qp E 179 [jd fs] st λr st'=>r=.tu [kq (yt fs),errA (z0 fs)]∧st'=st:=by
 refine ze [.a (jd fs)] (ju (ye (qef _)) (ki _)) Tryz.func179 rfl rfl (λ_=>rfl) rfl λS0=>?_;have h1:=λst=>zgv fs st hK Om;have h2:=λst=>qhs fs st hl;unfold qz6 at h1;unfold yt
 cases he:z0 fs with
 |no=>
  rw[he,if_pos rfl]at h1;rw[if_pos rfl];apply qd []
  repeat' (first|apply Qa|(intro h;try exact cDd)|exact⟨Tryz.call211⟩|refine cpe h1 ?_|exact⟨Tryz.call80⟩|refine cpe h2 ?_|exact cSd|apply qb []|refine exr ?_|refine qe ?_)
 |num n=>
  rw[he,if_neg Sx]at h1;rw[if_neg Sx];apply qd []
  repeat' (first|apply Qa|(intro h;try exact cDd)|exact⟨Tryz.call211⟩|refine cpe h1 ?_|exact cSd|apply qb []|refine exr ?_|refine qe ?_)
 |at' a n=>
  rw[he,if_neg Sx]at h1;rw[if_neg Sx];apply qd [];repeat' (first|apply Qa|(intro h;try exact cDd)|exact⟨Tryz.call211⟩|refine cpe h1 ?_|exact cSd|apply qb []|refine exr ?_|refine qe ?_)
theorem zi0(x:zg)(st:List AObj)(hl:x.fields.length<1000000):qp E 123 [kq x] st λr st'=>r=kq x∧st'=st:=by
 refine ze [.a (kq x)] (ye (qef _)) Tryz.func123 rfl rfl (λ_=>rfl) rfl λS0=>?_;have h2:=λst=>qhs x.fields st hl;apply qd [1];repeat' (first|apply Qa|(intro h;try exact cDd)|exact⟨Tryz.call80⟩|refine cpe h2 ?_|exact cSd|apply qb [1]|refine exr ?_|refine qe ?_)
structure ItsB (its:List zg):Prop where
 len:its.length<=1000000
 fld:∀x∈its,x.fields.length<1000000
theorem q0n(prev:Bool):∀its:List zg,(vo prev its).length<=2*its.length
 | []=>by simp[vo]
 |x::r=>by
  have ih:=q0n (decide (x.kind≠1)) r;unfold vo;split <;>simp only[Qe,Qs,List.length_nil]<;>omega
theorem zka(its:List zg)(st:List AObj)(hB:ItsB its):qp E 79 [vu its] st λr st'=>r=vu (qb6 its)∧st'=st:=by
 refine ze [.a (vu its)] (qc7 _) Tryz.func79 rfl rfl (λ_=>rfl) rfl λS0=>?_;have hln:=hB.len;apply qd [];repeat' (first|apply Qa|(intro h;try exact cDd)|exact cSd|apply qb []|refine exr ?_|refine qe ?_)
 refine zw (X:=Nat×List zg) (λ(k,out)=>⟨[(0,.a (vu its)),(3,.tp 0),(6,.a (vu its)),(7,.i its.length),(8,.i k)],[(0,some (.tip 3 123 (out.map kq)))],1⟩)
  (λ(k,out)=>k<=its.length∧out.length<=2*k∧∃prev,(prev=true↔∃y,0<k∧its[k-1]?=some y∧y.kind≠1)∧out++vo prev (its.drop k)=qb6 its) (λ(k,out)=>its.length-k) (0,[]) ⟨Om,Sx,false,Sx,rfl⟩ ?_ ?_
 .skip
  repeat' (first|apply Qa|(intro h;try exact cDd)|exact cSd|apply qb []|refine exr ?_|refine qe ?_)
  all_goals (simp;done)
 .rintro⟨k,out⟩ ⟨hk,mw,prev,hpv,a8⟩
  by_cases e9:k<its.length
  .have hx:its[k]?=some its[k]:=Qc e9
   have g9:(its.map kq)[k]?=some (kq its[k]):=by rw[Qd,hx];rfl
   have hxf:=hB.fld its[k] (Zb e9);rw[Qg e9,vo]at a8;generalize its[k]=x at hx g9 a8 hxf;have sq:=λst=>zi0 x st hxf;have o0:(out.map kq).length=out.length:=Sx
   have hnext:(decide (x.kind≠1)=true↔∃y,0<k+1∧its[k+1-1]?=some y∧y.kind≠1):=by
    rw[decide_eq_true_iff,Nat.add_sub_cancel,hx];constructor
    .intro h
     exact⟨x,Om,rfl,h⟩
    .rintro⟨y,_,h1,h2⟩
     simp only[Qy]at h1;rw[h1];exact h2
   by_cases hk0:k=0
   .have hp:¬(prev=true):=λh=>by
     obtain⟨_,h,_⟩:=hpv.1 h;omega
    rw[if_neg (λh=>hp h.1)]at a8;apply qd [];repeat' (first|apply Qa|(intro h;try exact cDd)|(refine Qb (k) ⟨Om,_,g9,?_⟩)|exact⟨Tryz.call123⟩|refine cpe sq ?_|(refine Qb (k+1,out++[x]) ⟨⟨Om,So,_,hnext,by rw[<-a8];simp⟩,by simp only;omega,?_⟩)|exact cSd|apply qb []|refine exr ?_|refine qe ?_)
    all_goals first|(simp[SV.evs,SV.ev];done)|(simp[SV.evs];omega)
   .obtain⟨y,hy⟩:∃y,its[k-1]?=some y:=⟨_,Qc (by omega:k-1<its.length)⟩
    have hym:(its.map kq)[k-1]?=some (kq y):=by rw[Qd,hy];rfl
    have hpy:(prev=true↔y.kind≠1):=by
     rw[hpv];constructor
     .rintro⟨z,_,h1,h2⟩
      rw[hy]at h1;simp only[Qy]at h1;rw[h1];exact h2
     .exactλh=>⟨y,Om,hy,h⟩
    by_cases hb:x.kind≠1∧y.kind≠1
    .rw[if_pos ⟨hpy.2 hb.2,hb.1⟩]at a8
     obtain⟨p9,t8⟩:=hb;apply qd [];repeat' (first|apply Qa|(intro h;try exact cDd)|(refine Qb (k) ⟨Om,_,g9,?_⟩)|(refine Qb (k-1) ⟨Om,_,hym,?_⟩)|exact⟨Tryz.call123⟩|refine cpe sq ?_|(refine Qb (k+1,out++[⟨1,[10],[]⟩,x]) ⟨⟨Om,So,_,hnext,by rw[<-a8];simp⟩,by simp only;omega,?_⟩)|exact cSd|apply qb []|refine exr ?_|refine qe ?_)
     all_goals first|(simp[SV.evs,SV.ev];done)|(simp[SV.evs];omega)
    .rw[if_neg (λh=>hb ⟨h.2,hpy.1 h.1⟩)]at a8
     apply qd [];repeat' (first|apply Qa|(intro h;try exact cDd)|(refine Qb (k) ⟨Om,_,g9,?_⟩)|(refine Qb (k-1) ⟨Om,_,hym,?_⟩)|exact⟨Tryz.call123⟩|refine cpe sq ?_|(refine Qb (k+1,out++[x]) ⟨⟨Om,So,_,hnext,by rw[<-a8];simp⟩,by simp only;omega,?_⟩)|exact absurd ⟨by assumption,by assumption⟩ hb|exact cSd|apply qb []|refine exr ?_|refine qe ?_)
     all_goals first|(simp[SV.evs,SV.ev];done)|(simp[SV.evs];omega)
  .have e9:k=its.length:=by omega
   subst e9;rw[Qr,vo,Qo]at a8;rw[<-a8];apply qd [];repeat' (first|apply Qa|(intro h;try exact cDd)|exact cSd|apply qb []|refine exr ?_|refine qe ?_)
theorem znv(its:List zg)(st:List AObj)(hl:its.length<=4000000)(hr:(wm its).length<=1000000000000):qp E 78 [vu its] st λr st'=>r=Sv (wm its)∧st'=st:=by
 refine qz (qr _) (qq Tryz.func78 rfl (Qm rfl) ?_);have o0:(its.map kq).length=its.length:=Sx
 repeat' (first|(apply qiv;rfl)|apply qo|apply qy|apply qf|apply qh|apply qj|apply qg|(apply jk;rfl;rfl;rfl;rfl))
 refine qck its (λpre s=>∃q,(q=.v (.pointer none)∨q=.bx (st.length+0) 0 0)∧StE [(3,.bx (st.length+0) 0 0),(6,vu its),(7,Iv its.length),(8,Iv pre.length)] st [bldO 0 q (wm pre) (st.length+1),.tip (wm pre).length 1 5] s) ⟨_,.inl rfl,qek ⟨rfl,rfl,congrArg (λn:Nat=>Iv (n:Int)) o0,rfl,trivial⟩ rfl⟩ ?_ ?_
 .rintro _ ⟨q,hq,t,ext,rfl⟩
  repeat' (first|apply qo|apply qf|apply qh|apply qg|(apply qt;rfl;rfl;rfl)|(apply qc;rfl;apply vq;exact cAo)|apply z7|apply qu|(refine qk Tryz.call72 (qiy st _ _ _ _ 0 1 0 _ _ rfl rfl rfl) ?_))
  exact qn rfl (q5 rfl) ⟨rfl,qa0 _ _ _ _⟩
 .rintro pre x rest _ tx ⟨q,hq,t,ext,rfl⟩
  have d5:its.length=pre.length+(rest.length+1):=by rw[tx];simp
  have d8:(its.map kq)[pre.length]?=some (kq x):=by rw[tx];simp
  have dg:(wm pre).length+x.raw.length<=1000000000000:=by
   have e:x::rest=[x]++rest:=rfl;rw[tx,qg7,e,qg7,qg8]at hr;simp only[Qe]at hr;omega
  repeat' (first|apply qo|apply qy|apply qf|apply qh|(apply qt;rfl;rfl;rfl)|(apply qc;rfl;apply va;exact cAo)|(apply j7;rfl;rfl)|(apply zk;rfl;rfl;rfl)|(apply jq;rfl;rfl;rfl)|(apply jt;(iterate 5 rfl))|(apply jc;(iterate 11 rfl))|apply qv|(apply kp (n:=pre.length);(iterate 5 rfl);exact d8))
  refine qk Tryz.call69 (qkh st _ _ _ _ 0 1 0 _ _ _ rfl rfl ?_ ?_ rfl) ?_;(exact hq);(omega);repeat' (first|apply qf|apply qh|apply qj|(apply zn;rfl;rfl;exact q6 Om Om))
  refine⟨_,.inr rfl,qbq ⟨rfl,rfl,rfl,?_,trivial⟩ ?_⟩
  .rw[qd6 pre x];rfl
  .rw[qg7,qg8];rfl
theorem zkw(its:List zg)(st:List AObj)(hB:ItsB its)(hr:(wm (qb6 its)).length<=1000000000000):qp E 35 [vu its] st λr st'=>r=Sv (wm (qb6 its))∧st'=st:=by
 refine ze [.a (vu its)] (qr _) Tryz.func35 rfl rfl (λ_=>rfl) rfl λS0=>?_;have h1:=λst=>zka its st hB;have hal:=q0n false its;have hln:=hB.len;have h2:=λst=>znv (qb6 its) st (by unfold qb6;omega) hr;apply qd [];repeat' (first|apply Qa|(intro h;try exact cDd)|exact⟨Tryz.call79⟩|refine cpe h1 ?_|exact⟨Tryz.call78⟩|refine cpe h2 ?_|exact cSd|apply qb []|refine exr ?_|refine qe ?_)
theorem zjw(l:qs)(st:List AObj)(hB:ItsB (jw l)):qp E 36 [v6 l] st λr st'=>r=vu (jw l)∧st'=st:=by
 refine ze [.a (v6 l)] (qc7 _) Tryz.func36 rfl rfl (λ_=>rfl) rfl λS0=>?_;have hln:=hB.len;have fc:(jw l).length=l.ents.length:=by simp[jw]
 apply qd [];repeat' (first|apply Qa|(intro h;try exact cDd)|exact cSd|apply qb []|refine exr ?_|refine qe ?_)
 refine zw (X:=Nat) (λk=>⟨[(3,.tp 0),(12,.a (.sl 4 (l.ents.map entA) none)),(13,.i l.ents.length),(14,.i k)],[(0,some (.tip 3 123 (((jw l).take k).map kq)))],1⟩)
  (λk=>k<=l.ents.length) (λk=>l.ents.length-k) 0 Om ?_ ?_
 .skip
  repeat' (first|apply Qa|(intro h;try exact cDd)|exact cSd|apply qb []|refine exr ?_|refine qe ?_)
  all_goals (simp;done)
 .rintro k hk
  by_cases e9:k<l.ents.length
  .have hx:l.ents[k]?=some l.ents[k]:=Qc e9
   have g9:(l.ents.map entA)[k]?=some (entA l.ents[k]):=by rw[Qd,hx];rfl
   have hxi:(jw l)[k]?=some l.ents[k].x:=by unfold jw;rw[Qd,hx];rfl
   have hxf:=hB.fld l.ents[k].x (Zf hxi);have i7:(jw l).take (k+1)=(jw l).take k++[l.ents[k].x]:=by rw[Qq,hxi];rfl
   have sw:(((jw l).take k).map kq).length<=k:=So
   generalize l.ents[k]=e at hx g9 hxi hxf i7;have sq:=λst=>qhs e.x.fields st hxf;apply qd [];repeat' (first|apply Qa|(intro h;try exact cDd)|(refine Qb (k) ⟨Om,_,g9,?_⟩)|exact⟨Tryz.call80⟩|refine cpe sq ?_|(refine Qb (k+1) ⟨Om,Om,?_⟩)|exact cSd|apply qb []|refine exr ?_|refine qe ?_)
   all_goals first|(rw[i7];simp;done)|(simp[SV.evs];omega)
  .have e9:k=l.ents.length:=by omega
   subst e9;have e:(jw l).take l.ents.length=jw l:=Zo Om;rw[e];apply qd [];repeat' (first|apply Qa|(intro h;try exact cDd)|exact cSd|apply qb []|refine exr ?_|refine qe ?_)
theorem zm8(l:qs)(st:List AObj)(hB:ItsB (jw l))(hr:(qsz l).length<=1000000000000):qp E 17 [v6 l] st λr st'=>r=Sv (qsz l)∧st'=st:=by
 refine ze [.a (v6 l)] (qr _) Tryz.func17 rfl rfl (λ_=>rfl) rfl λS0=>?_;have h1:=λst=>zjw l st hB;have h2:=λst=>zkw (jw l) st hB hr;apply qd [];repeat' (first|apply Qa|(intro h;try exact cDd)|exact⟨Tryz.call36⟩|refine cpe h1 ?_|exact⟨Tryz.call35⟩|refine cpe h2 ?_|exact cSd|apply qb []|refine exr ?_|refine qe ?_)
theorem qld(es:List EntV):∀x∈es.map entA,x.cells.length=4:=λx hx=>by
 obtain⟨e,_,rfl⟩:=Zs.1 hx;rfl
theorem qet(es:List EntV):(flat (es.map entA)).length=es.length*4:=by
 rw[zv (qld es),Qf]
theorem qjq(a b:List EntV):flat ((a++b).map entA)=flat (a.map entA)++flat (b.map entA):=by rw[Qp,yr]
theorem qfs(A B xs:List AV){off:Nat}(h:A.length=off):z4 (A++B) off xs=A++xs++B.drop xs.length:=by
 unfold z4;rw[<-h,Zh,Zk,Qk Om];simp
theorem qkx{cs xs:List AV}{off:Nat}(h:off+xs.length<=cs.length):(z4 cs off xs).length=cs.length:=by
 unfold z4;simp;omega
theorem zpd(es:List EntV)(i:Nat)(hi:i<es.length)(hl:es.length<1000000)(st:List AObj)(c:AV)(hc:OwnS st 4 168 (es.map entA) c):qp E 180 [c,Iv i,Iv ((i:Int)+1)] st λr st'=>OwnR 4 168 ((es.take i++es.drop (i+1)).map entA) st c r st':=by
 have o0:(es.map entA).length=es.length:=Sx
 rcases hc with⟨h0,_⟩|⟨o,ver,cap,pad,rfl,e2,e3,e4,e5,e6⟩
 .rw[h0]at o0
  simp at o0;omega
 rw[o0]at e5⊢;have d9:=lt_of_getElem? e2;have o8:=qet es
 have cd:flat (es.map entA)++pad=flat ((es.take i).map entA)++(flat ((es.drop i).map entA)++pad):=by
  rw[<-Qu,<-qjq,Qn]
 have ht4:(flat ((es.take i).map entA)).length=i*4:=by rw[qet,Zc,Zn Om]
 have hd4:(flat ((es.drop (i+1)).map entA)).length=(es.length-(i+1))*4:=by rw[qet,Zd]
 obtain⟨B1,hB1⟩:∃B1,(flat ((es.drop i).map entA)++pad).drop (flat ((es.drop (i+1)).map entA)).length=B1:=⟨_,rfl⟩
 have r9:z4 (flat (es.map entA)++pad) (i*4) (flat ((es.drop (i+1)).map entA))=flat ((es.take i++es.drop (i+1)).map entA)++B1:=by
  rw[cd,qfs _ _ _ ht4,qjq,hB1]
 have fm:(flat ((es.take i++es.drop (i+1)).map entA)++B1).length=(cap+1)*4:=by
  rw[<-r9,qkx (by rw[e3,hd4];omega),e3]
 have nq:(es.take i++es.drop (i+1)).length=es.length-1:=So
 -- what is appended
 obtain⟨q,hq⟩:∃q,(if cap+1=i+1 then 0 else 0+(i+1)*4)=q:=⟨_,rfl⟩
 have hqz:((flat (es.map entA)++pad).drop q).take ((es.length-(i+1))*4)=flat ((es.drop (i+1)).map entA)∧q+(es.length-(i+1))*4<=(flat (es.map entA)++pad).length:=by
  rw[e3];by_cases hci:cap+1=i+1
  .have:es.length-(i+1)=0:=by omega
   rw[if_pos hci]at hq;rw[this,<-hq,Qk (by omega:es.length<=i+1)];exact⟨by simp[flat],Om⟩
  .rw[if_neg hci]at hq
   rw[<-hq];refine⟨?_,Om⟩
   have e:flat (es.map entA)++pad=flat ((es.take (i+1)).map entA)++(flat ((es.drop (i+1)).map entA)++pad):=by
    rw[<-Qu,<-qjq,Qn]
   have e':(flat ((es.take (i+1)).map entA)).length=0+(i+1)*4:=by rw[qet,Zc,Zn Om];omega
   rw[e,<-e',Zy,<-hd4,Zh]
 have cg:SrcA st 4 (.os o ver q (es.length-(i+1)) (cap+1-(i+1))) (es.length-(i+1)) (es.length-(i+1)) (flat ((es.drop (i+1)).map entA)):=by
  have:=SrcA.os (st:=st) (sz:=4) o ver q (es.length-(i+1)) (cap+1-(i+1)) (es.length-(i+1)) _ _ e2 hqz.2 (by rw[hqz.1];exact qdv λ_=>rfl);rw[hqz.1]at this;exact this
 refine qq Tryz.func180 rfl (Qm rfl) ?_;rw[Qo];repeat' (first|(refine jb (sz:=4) (i:=i) (j:=i+1) (m:=es.length) rfl rfl rfl ?_ ?_ ?_ ?_ ?_ ?_ ?_;exact⟨_,rfl⟩;exact⟨_,rfl⟩;exact⟨_,rfl⟩;omega;omega;omega)|apply qo|apply qf|apply qh|apply qj|apply qg|(apply qt;rfl;rfl;rfl)|(apply qc;rfl;apply vq;exact cAo)|(apply jk;rfl;rfl;rfl;rfl)|apply qv)
 refine qzd (λs=>StA [(0,.os o ver 0 (i+(es.length-(i+1))) (cap+1)),(7,Iv es.length)] (st.set o (.cells ver 168 (flat ((es.take i++es.drop (i+1)).map entA)++B1))) [] s) ?_ ?_
 .refine ql2 rfl rfl ?_
  (apply qal 0;rfl;kernel_rfl;kernel_rfl;kernel_rfl;rfl;exact qbf)
  (apply qal 1;rfl;kernel_rfl;kernel_rfl;kernel_rfl;rfl;exact qbf)
  (apply qal 3;rfl;kernel_rfl;kernel_rfl;kernel_rfl;rfl;exact qbf)
  (apply qal 4;rfl;kernel_rfl;kernel_rfl;kernel_rfl;rfl;exact qbf)
  refine x2 [2,5] Kr rfl ⟨⟨_,rfl,?_⟩,⟨_,rfl,?_⟩,trivial⟩
  ·(refine jb (sz:=4) (i:=0) (j:=i) (m:=cap+1) rfl rfl rfl ?_ ?_ ?_ ?_ ?_ ?_ ?_;rfl;exact⟨_,rfl⟩;rfl;omega;omega;omega)
   apply qh;refine x2 [5] Kr rfl ⟨⟨_,rfl,?_⟩,trivial⟩
   (refine jb (sz:=4) (i:=i+1) (j:=es.length) (m:=cap+1) rfl rfl rfl ?_ ?_ ?_ ?_ ?_ ?_ ?_;exact⟨_,rfl⟩;exact⟨rfl,rfl⟩;rfl;omega;omega;omega;rw[hq])
   apply qh;refine x2 [6] Kr rfl ⟨⟨_,rfl,?_⟩,trivial⟩
   (refine qp8 (bytes:=56) (o:=o) (ver:=ver) (n:=i) (cap:=cap+1) (m:=es.length-(i+1)) (cs:=flat (es.map entA)++pad) rfl rfl e2 cg rfl rfl ⟨⟨_,_,rfl,rfl,rfl,rfl,rfl⟩⟩ Om e3 ?_;rw[r9])
   apply qh
   (apply qal 7;rfl;kernel_rfl;kernel_rfl;kernel_rfl;rfl;exact q0s)
   refine qeb Kr ?_;exact z6 ⟨rfl,rfl,trivial⟩
  ·(refine jb (sz:=4) (i:=i+1) (j:=es.length) (m:=cap+1) rfl rfl rfl ?_ ?_ ?_ ?_ ?_ ?_ ?_;exact⟨_,rfl⟩;exact⟨rfl,rfl⟩;rfl;omega;omega;omega;rw[hq])
   apply qh;refine x2 [2] Kr rfl ⟨⟨_,rfl,?_⟩,trivial⟩
   (refine jb (sz:=4) (i:=0) (j:=i) (m:=cap+1) rfl rfl rfl ?_ ?_ ?_ ?_ ?_ ?_ ?_;rfl;exact⟨_,rfl⟩;rfl;omega;omega;omega)
   apply qh;refine x2 [6] Kr rfl ⟨⟨_,rfl,?_⟩,trivial⟩
   (refine qp8 (bytes:=56) (o:=o) (ver:=ver) (n:=i) (cap:=cap+1) (m:=es.length-(i+1)) (cs:=flat (es.map entA)++pad) rfl rfl e2 cg rfl rfl ⟨⟨_,_,rfl,rfl,rfl,rfl,rfl⟩⟩ Om e3 ?_;rw[r9])
   apply qh
   (apply qal 7;rfl;kernel_rfl;kernel_rfl;kernel_rfl;rfl;exact q0s)
   refine qeb Kr ?_;exact z6 ⟨rfl,rfl,trivial⟩
 .rintro _ ⟨t,rfl⟩
  have fx:(st.set o (AObj.cells ver 168 (flat ((es.take i++es.drop (i+1)).map entA)++B1)))[o]?=some (.cells ver 168 (flat ((es.take i++es.drop (i+1)).map entA)++B1)):=kg e2
  have hqq:(if cap+1=i+(es.length-(i+1))then 0 else 0+(i+(es.length-(i+1)))*4)=(es.length-1)*4:=by
   rw[if_neg Om];omega
  have hfe:(flat ((es.take i++es.drop (i+1)).map entA)).length=(es.length-1)*4:=by rw[qet,nq]
  repeat' (first|(refine jb (sz:=4) (i:=i+(es.length-(i+1))) (j:=es.length) (m:=cap+1) rfl rfl rfl ?_ ?_ ?_ ?_ ?_ ?_ ?_;exact⟨_,rfl⟩;exact⟨_,rfl⟩;rfl;omega;omega;omega;rw[hqq])|(refine q4g (sz:=4) (bytes:=56) rfl fx rfl ⟨⟨_,_,rfl,rfl,rfl,rfl,rfl⟩⟩ rfl (by rw[fm];omega) λzs hz=>?_)|apply qo|apply qf|apply qh|apply qj|apply qg|(apply jk;rfl;rfl;rfl;rfl)|apply qu)
  refine qn rfl (q5 rfl) ?_
  show OwnR 4 168 _ st _ (.os o ver 0 (i+(es.length-(i+1))) (cap+1)) ((st.set o _).set o (.cells ver 168 (z4 (flat ((es.take i++es.drop (i+1)).map entA)++B1) ((es.length-1)*4) zs)))
  rw[Zz,qfs _ _ _ hfe,Qu];have hB1l:(es.length-1)*4+B1.length=(cap+1)*4:=by rw[<-hfe,<-Qe];exact fm
  have hzl:zs.length=4:=by rw[hz];omega
  refine⟨.inr ⟨o,ver,cap,zs++B1.drop zs.length,?_,kg e2,?_,qld _,?_,e6⟩,Sx,λj hj b9=>Qj λe=>b9 (by rw[e];rfl),λo' e8=>.inr e8⟩
  .rw[Qf,nq]
   congr 1;omega
  .rw[Qe,Qe,Zd,hfe,hzl]
   omega
  .rw[Qf,nq]
   omega
theorem znr(e:EntV)(st:List AObj)(c:AV)(hnr:qd7 c):qp E 181 [c,Iv 0,.sl 4 [entA e] none] st λr st'=>OwnR 4 168 [entA e] st c r st':=by
 refine qq Tryz.func181 rfl (Qm rfl) ?_;rw[Qo];repeat' (first|(apply jk (n:=1);rfl;rfl;rfl;rfl)|(refine q4m (sz:=4) rfl hnr.val rfl rfl ?_ ?_;exact⟨_,rfl⟩)|(apply jk;rfl;exact hnr.len;rfl;rfl)|(refine qgf (sz:=4) (ys:=[entA e]) (bytes:=56) hnr.val (λ_ _ h=>h) rfl rfl ⟨⟨_,_,rfl,rfl,rfl,rfl,rfl⟩⟩ rfl Sx (by simp[maxLen]) Sx λcap pad q1 q2 q3 q4=>?_)|apply qo|apply qf|apply qh|apply qj|apply qg|(apply qt;rfl;rfl;rfl)|(apply qc;rfl;apply va;exact cAo)|(apply qc;rfl;apply vq;exact cAo)|apply qv|apply qu)
 refine qn rfl (q5 rfl) ?_
 show OwnR 4 168 _ st c (.os st.length 0 0 _ (cap+1)) (st++[_])
 refine⟨.inr ⟨_,0,cap,pad,rfl,yg,q1,q2,q3,q4⟩,qij,λj hj _=>Qw hj,λo ho=>?_⟩;simp only[zq,Qy]at ho;left;omega
theorem zns(es:List EntV)(e:EntV)(hl:es.length<1000000)(st:List AObj)(o ver cap:Nat)(pad:List AV)(e2:st[o]?=some (.cells ver 168 (flat (es.map entA)++pad)))(e3:(flat (es.map entA)++pad).length=(cap+1)*4)(e5:es.length<=cap+1)(e6:cap+1<=maxLen):
  qp E 181 [.os o ver 0 es.length (cap+1),Iv es.length,.sl 4 [entA e] none] st λr st'=>OwnR 4 168 (es.map entA++[entA e]) st (.os o ver 0 es.length (cap+1)) r st':=by
 have o0:(es.map entA).length=es.length:=Sx
 have d9:=lt_of_getElem? e2
 have hV0:Vec 4 168 o (es.map entA) (.os o ver 0 es.length (cap+1)) (.cells ver 168 (flat (es.map entA)++pad)):=by
  have:=Vec.os (o:=o) (T:=168) (xs:=es.map entA) ver (cap+1) pad e3 (qld _) Om e6;rw[o0]at this;exact this
 refine qq Tryz.func181 rfl (Qm rfl) ?_;rw[Qo];repeat' (first|(apply jk (n:=1);rfl;rfl;rfl;rfl)|(refine jb (sz:=4) (i:=es.length) (j:=es.length) (m:=cap+1) rfl rfl rfl ?_ ?_ ?_ ?_ ?_ ?_ ?_;exact⟨_,rfl⟩;exact⟨rfl,rfl⟩;rfl;omega;omega;omega)|(refine qp9 (sz:=4) (bytes:=56) (o:=o) (xs:=es.map entA) (ys:=[entA e]) rfl (λ_ _ h=>h) hV0 e2 rfl rfl ⟨⟨_,_,rfl,rfl,rfl,rfl,rfl⟩⟩ rfl (by simp[maxLen];omega) So λa' ob' hV=>?_)|apply qo|apply qf|apply qh|apply qj|apply qg|(apply qt;rfl;rfl;rfl)|(apply qc;rfl;apply va;exact cAo)|(apply qc;rfl;apply vq;exact cAo)|(apply jk;rfl;rfl;rfl;rfl)|apply qv|apply qu)
 rcases q8f hV with⟨q,_,_⟩|⟨ver',cap',pad',rfl,rfl,q1,q2,q3,q4⟩
 .simp at q
 .obtain⟨cap',rfl⟩:∃c,cap'=c+1:=⟨cap'-1,by simp at q3;omega⟩
  refine qn rfl (q5 rfl) ?_
  show OwnR 4 168 _ st _ (.os o ver' 0 _ (cap'+1)) (st.set o _)
  exact⟨.inr ⟨o,ver',cap',pad',rfl,kg e2,q1,q2,q3,q4⟩,Sx,λj hj b9=>Qj λe=>b9 (by rw[e];rfl),λo' e8=>.inr e8⟩
theorem q6z(w:World)(a b:Addr)(la ca lb cb:Nat)(tA tB:TypeId)(kA kB:Nat)(h1:a.block≠b.block)(h2:w.shape? a.block=some (tA,kA))(h3:w.shape? b.block=some (tB,kB))(h4:kA≠0)(h5:w.frozen? b=false)(h6:w.frozen? {block:=b.block,off:=kB}=false):
  (callFunc 212 #[.slice (some a) la ca,.slice (some b) lb cb]).run E.P w=.ok (.value (.bool false)) w:=by
 have hz:∀w,(Go.sizeOf 168).run E.P w=.ok 4 w:=λw=>(vp (agg:=true) rfl w).1
 rw[run_callFunc_extern (P:=E.P) Tryz.func212 Kr Kr Kr (e:=Extern.SlicesOverlaps.overlaps #[164,164] #[4]) Kr,
  qvm w 164 4 168 rfl 4 hz a b la ca lb cb h1 tA tB kA kB h2 h3 h4 h5 h6]
 rfl
structure InsB (es:List EntV) (e:EntV) (i cap:Nat) (pad:List AV):Prop where
 t4:(flat ((es.take i).map entA)).length=i*4
 d4:(flat ((es.drop i).map entA)).length=(es.length-i)*4
 split:flat (es.map entA)++pad=flat ((es.take i).map entA)++(flat ((es.drop i).map entA)++pad)
 take:(flat (es.map entA)++pad).take (i*4)=flat ((es.take i).map entA)
 drop:((flat (es.map entA)++pad).drop (0+i*4)).take ((es.length-i)*4)=flat ((es.drop i).map entA)
 new:flat ((es.take i++e::es.drop i).map entA)=flat ((es.take i).map entA)++flat [entA e]++flat ((es.drop i).map entA)
 nl:(es.take i++e::es.drop i).length=es.length+1
 src:∀o ver L c'(S:List AObj),(flat (es.map entA)++pad).length=(cap+1)*4->es.length<=cap+1->S[o]?=some (.cells ver 168 (flat (es.map entA)++pad))->SrcA S 4 (.os o ver (0+i*4) L c') L (es.length-i) (flat ((es.drop i).map entA))
theorem insB(es:List EntV)(e:EntV)(i cap:Nat)(pad:List AV)(hi:i<es.length):InsB es e i cap pad:=by
 have ht4:(flat ((es.take i).map entA)).length=i*4:=by rw[qet,Zc,Zn Om]
 have hd4:(flat ((es.drop i).map entA)).length=(es.length-i)*4:=by rw[qet,Zd]
 have cd:flat (es.map entA)++pad=flat ((es.take i).map entA)++(flat ((es.drop i).map entA)++pad):=by
  rw[<-Qu,<-qjq,Qn]
 have hdrop:((flat (es.map entA)++pad).drop (0+i*4)).take ((es.length-i)*4)=flat ((es.drop i).map entA):=by rw[Nat.zero_add,cd,<-ht4,Zy,<-hd4,Zh]
 refine⟨ht4,hd4,cd,by rw[cd,<-ht4,Zh],hdrop,?_,So,λo ver L c' S e3 e5 hS=>?_⟩
 .rw[qjq]
  simp[flat]
 .have:=SrcA.os (st:=S) (sz:=4) o ver (0+i*4) L c' (es.length-i) _ _ hS (by rw[e3];omega) (by rw[hdrop];exact qdv λ_=>rfl)
  rw[hdrop]at this;exact this
set_option maxHeartbeats 4000000 in
theorem znu(es:List EntV)(e:EntV)(i:Nat)(hi:i<es.length)(hl:es.length<1000000)(st:List AObj)(o ver cap:Nat)(pad:List AV)(e2:st[o]?=some (.cells ver 168 (flat (es.map entA)++pad)))(e3:(flat (es.map entA)++pad).length=(cap+1)*4)(e5:es.length+1<=cap+1)(e6:cap+1<=maxLen):
  qp E 181 [.os o ver 0 es.length (cap+1),Iv i,.sl 4 [entA e] none] st λr st'=>OwnR 4 168 ((es.take i++e::es.drop i).map entA) st (.os o ver 0 es.length (cap+1)) r st':=by
 have hI:=insB es e i cap pad hi;have d9:=lt_of_getElem? e2;have hfl1:(flat [entA e]).length=4:=rfl;have ht4:=hI.t4;have hd4:=hI.d4;have hi1:(if cap+1=i then 0 else 0+i*4)=0+i*4:=if_neg Om;have lj:(if cap+1=i+1 then 0 else 0+(i+1)*4)=(i+1)*4:=by rw[if_neg Om];omega
 obtain⟨B1,hB1⟩:∃B1,(flat ((es.drop i).map entA)++pad).drop 4=B1:=⟨_,rfl⟩;obtain⟨A1,gw⟩:∃A1,(flat ((es.drop i).map entA)++pad).take 4=A1:=⟨_,rfl⟩
 have hA1l:A1.length=4:=by
  rw[<-gw,Zc,Qe,hd4];omega
 obtain⟨X1,hX1⟩:∃X1,flat ((es.take i).map entA)++A1++flat ((es.drop i).map entA)++B1.drop ((es.length-i)*4)=X1:=⟨_,rfl⟩
 have sd:z4 (flat (es.map entA)++pad) ((i+1)*4) (flat ((es.drop i).map entA))=X1:=by
  have e1:flat (es.map entA)++pad=(flat ((es.take i).map entA)++A1)++B1:=by rw[hI.split,Qu,<-gw,<-hB1,Qn]
  rw[e1,qfs _ _ _ (by rw[Qe,ht4,hA1l];omega),hd4,hX1]
 have pw:z4 X1 (0+i*4) (flat [entA e])=flat ((es.take i++e::es.drop i).map entA)++B1.drop ((es.length-i)*4):=by
  have e1:X1=flat ((es.take i).map entA)++(A1++(flat ((es.drop i).map entA)++B1.drop ((es.length-i)*4))):=by rw[<-hX1];simp
  rw[e1,qfs _ _ _ (by rw[ht4];omega),hfl1,List.drop_append_of_le_length Om,Qk (by omega:A1.length<=4),hI.new];simp
 have hsl1:X1.length=(cap+1)*4:=by
  rw[<-sd,qkx (by rw[e3,hd4];omega),e3]
 have hsl2:(flat ((es.take i++e::es.drop i).map entA)++B1.drop ((es.length-i)*4)).length=(cap+1)*4:=by
  rw[<-pw,qkx (by rw[hsl1,hfl1];omega),hsl1]
 have cg:=hI.src o ver (es.length+1-i) (cap+1-i) st e3 Om e2;have rl:=hI.nl;generalize hXn:flat ((es.take i++e::es.drop i).map entA)++B1.drop ((es.length-i)*4)=Xn at pw hsl2;clear hX1 hB1 gw hI ht4 hd4;generalize hdz:flat ((es.drop i).map entA)=dz at sd cg;refine qq Tryz.func181 rfl (Qm rfl) ?_;rw[Qo];generalize flat (es.map entA)++pad=X0 at e2 e3 sd;repeat' (first|apply qo|apply qf|apply qh|apply qj|apply qg)
 refine jb (o:=o) (ver:=ver) (off:=0) (len:=es.length) (cap:=cap+1) (sz:=4) (i:=i) (j:=es.length) (m:=cap+1) rfl rfl rfl ?_ ?_ ?_ Om Om Om ?_
 .exact⟨_,rfl⟩
 .exact⟨rfl,rfl⟩
 .rfl
 repeat' (first|(apply jk (n:=1);rfl;rfl;rfl;rfl)|apply qo|apply qf|apply qh|apply qj|apply qg|(apply qt;rfl;rfl;rfl)|(apply qc;rfl;apply vq;exact cAo)|(apply jk;rfl;rfl;rfl;rfl)|(apply zn;rfl;rfl;exact q6 Om Om)|apply qv)
 refine qwd rfl rfl rfl ?_;repeat' (first|apply qo|apply qf|apply qh|apply qj|(apply qt;rfl;rfl;rfl)|(apply qc;rfl;apply vq;exact cAo)|(apply zn;rfl;rfl;exact q6 Om Om)|apply qv)
 refine jb (o:=o) (ver:=ver) (off:=0) (len:=es.length) (cap:=cap+1) (sz:=4) (i:=0) (j:=es.length+1) (m:=cap+1) rfl rfl rfl ?_ ?_ ?_ Om Om Om ?_
 .rfl
 .exact⟨_,rfl⟩
 .rfl
 repeat' (first|apply qo|apply qf|apply qh|apply qj|apply qg|(apply zn;rfl;rfl;exact q6 Om Om))
 refine jb (o:=o) (ver:=ver) (off:=0) (len:=es.length+1) (cap:=cap+1) (sz:=4) (i:=i+1) (j:=es.length+1) (m:=cap+1) rfl rfl rfl ?_ ?_ ?_ Om Om Om ?_
 .exact⟨_,rfl⟩
 .exact⟨rfl,rfl⟩
 .rfl
 rw[lj];repeat' (first|(apply q47;first|apply qo|apply qy|apply qf|(apply qc;rfl;apply va;exact cAo)|(apply qc;rfl;apply vq;exact cAo)|(apply qc;rfl;apply qi3;exact cRa)|(apply qc;rfl;apply qi2;exact cRa)|(apply qc;rfl;apply cd_n<;>intro h)|(apply qc;rfl;apply cd_t;exact cRa)|(apply qc;rfl;apply cd_f;exact cRa)|(apply qc;rfl;apply cd_d<;>intro h)|(apply qc;rfl;apply cd_s<;>intro h)|apply qv|apply z7|apply qu)|(apply qw5;first|(apply qw;rfl;rfl;rfl;rfl)|(apply qaz;rfl;rfl;rfl;rfl))|(apply zal;first|(apply xd;exact cAo)|(apply wg;exact cAo)|(apply wj;exact cAo)|(apply xv;exact cAo)|(apply qrc;exact cRa)|(apply qao;exact cRa)|(apply qbs;exact cRa)|(apply qow;exact cRa)|(apply qhu<;>intro h)|(apply qaf;exact cRa)|(apply qew;exact cRa)|(apply qbb;exact cRa)|(apply xu;exact cRa)|(apply jo<;>intro h)|(apply qgj<;>intro h))|(apply zak;first|apply qfv|(apply qy9;rfl;rfl;rfl;rfl)|(apply q4q;rfl;rfl;exact q6 Om Om)|(apply qzb;rfl;rfl;rfl;rfl;exact cAs;exact cAs)|(apply qm2;(iterate 5 rfl))|(apply qjn;rfl;rfl;exact cOs)|(apply qe9;rfl;rfl;rfl)|(apply qm1;(iterate 5 rfl))|(apply qhp;rfl;rfl;rfl;rfl)|(apply ql0;rfl;rfl;rfl)|(apply q4p;rfl;rfl;rfl;exact cAs)|(apply qza;rfl;rfl)|(apply quj;rfl;rfl)|(apply qul;rfl;rfl;rfl;omega)|(apply qqs;rfl;rfl;rfl)|apply qea|apply qjm|(apply qwk;rfl;rfl;exact q6 Om Om)|(apply q97;rfl;rfl;rfl)|(apply qsj;rfl;rfl;rfl;exact cAs)|(apply qsi;rfl;rfl;rfl;exact cAs)|(apply qof;rfl;rfl))|(apply qw4;first|(apply qt;rfl;rfl;rfl)|(apply jp;rfl;rfl;rfl)|(apply jz;rfl;rfl;exact cOs)|(apply zn;rfl;rfl;exact q6 Om Om)|(apply wx;rfl;rfl;exact q6 Om Om)|(apply xi;rfl;rfl)|(apply wh;rfl;rfl)|(apply qbj;rfl;rfl)|(apply qd8;rfl;rfl)|(apply qbl;rfl;rfl;rfl)|(apply qf6;rfl;rfl;rfl)|(apply qdx;rfl;rfl;(first|exact ji _|rfl);first|exact ji _|rfl)|(apply qkd;rfl;rfl;(first|exact ji _|rfl);first|exact ji _|rfl)|(apply q0l;rfl;rfl;(first|exact ji _|rfl);first|exact ji _|rfl)|(apply qe7;rfl;rfl;rfl)|(apply qhm;rfl;rfl;rfl))|(apply q1c;first|(apply jq;rfl;rfl;rfl)|(apply qj1;(iterate 5 rfl))|(apply jt;(iterate 5 rfl)))|(apply q1d;first|(apply qoe;rfl)|(apply ja;rfl)|(apply qhk;rfl))|(apply qw6;first|(apply qbw;rfl;rfl;rfl;exact cAs)|(apply qgu;rfl;rfl;rfl;exact cAs)|(apply qgv;rfl;rfl;rfl;rfl;exact cAs;exact cAs)|(apply qib;rfl;rfl;rfl;rfl;(first|assumption|omega|exact Nat.succ_le_succ (Nat.zero_le _)|(simp;omega));rfl))|(apply q1b;first|(apply zr;rfl;rfl;rfl)|(apply jk;rfl;rfl;rfl;rfl))|(apply qnr;first|(apply zk;rfl;rfl;rfl)|(apply yl;rfl;rfl;rfl;rfl))|(apply qw7;first|(apply qe8;(iterate 11 rfl))|(apply jc;(iterate 11 rfl)))|(apply q48;first|apply qh|apply qj|apply qg|(apply zf;rfl;rfl)|(apply qi;rfl;apply w6;exact cAo)|(apply qi;rfl;apply wu;exact cAo)|(apply qi;rfl;apply qjb;exact cRa)|(apply qi;rfl;apply qfm;exact cRa)|(apply qi;rfl;apply pk_t;exact cRa)|(apply qi;rfl;apply pk_f;exact cRa)|(apply vr;rfl;rfl)|apply qf5|(apply j7;rfl;rfl)|(apply qb4;rfl;rfl;rfl;rfl)|(apply qke;rfl;rfl;rfl)|(apply wp;rfl;rfl;rfl;exact cAs)|(apply yf;rfl;rfl;rfl)|(apply wi;(iterate 9 rfl))|(apply ww;rfl;rfl)|(apply qiw;rfl;rfl;rfl;rfl;(first|assumption|omega|decide);rfl)|(apply qch;rfl;rfl;rfl;rfl;first|assumption|omega|decide)))
 refine q23 (xs:=[entA e]) (o:=o) (ver:=ver) rfl rfl e2 (by simp[flat,AV.cells]) q6z ?_;repeat' (first|apply qo|apply qh|(apply ja;rfl)|(apply qc;rfl;apply qi3;exact cRa))
 refine qgx [(0,.os o ver 0 (es.length+1) (cap+1)),(1,Iv i),(2,.sl 4 [entA e] none),(7,Iv 1)] st [] ⟨rfl,rfl,rfl,rfl,trivial⟩ rfl rfl λt=>?_;refine qzd (λs=>StA [(0,.os o ver 0 (es.length+1) (cap+1)),(1,Iv i),(2,.sl 4 [entA e] none)] (st.set o (.cells ver 168 X1)) [] s) ?_ ?_
 .refine ql2 rfl rfl ?_
  (apply qal 0;rfl;kernel_rfl;kernel_rfl;kernel_rfl;rfl;exact qbf)
  (apply qal 1;rfl;kernel_rfl;kernel_rfl;kernel_rfl;rfl;exact qbf)
  (apply qal 2;rfl;kernel_rfl;kernel_rfl;kernel_rfl;rfl;exact qbf)
  (apply qal 5;rfl;kernel_rfl;kernel_rfl;kernel_rfl;rfl;exact qbf)
  (apply qal 6;rfl;kernel_rfl;kernel_rfl;kernel_rfl;rfl;exact qbf)
  refine x2 [3,7] Kr rfl ⟨⟨_,rfl,?_⟩,⟨_,rfl,?_⟩,trivial⟩
  ·(apply zn;rfl;rfl;exact q6 Om Om)
   apply qh;refine x2 [4,7] Kr rfl ⟨⟨_,rfl,?_⟩,⟨_,rfl,?_⟩,trivial⟩
   ·(refine jb (o:=o) (ver:=ver) (off:=0) (len:=es.length+1) (cap:=cap+1) (sz:=4) (i:=i+1) (j:=es.length+1) (m:=cap+1) rfl rfl rfl ?_ ?_ ?_ Om Om Om ?_;exact⟨_,rfl⟩;exact⟨rfl,rfl⟩;rfl;rw[lj])
    apply qh;refine x2 [7] Kr rfl ⟨⟨_,rfl,?_⟩,trivial⟩
    (refine jb (o:=o) (ver:=ver) (off:=0) (len:=es.length+1) (cap:=cap+1) (sz:=4) (i:=i) (j:=es.length+1) (m:=cap+1) rfl rfl rfl ?_ ?_ ?_ Om Om Om ?_;exact⟨_,rfl⟩;exact⟨rfl,rfl⟩;rfl;rw[hi1])
    apply qh;refine x2 [8] Kr rfl ⟨⟨_,rfl,?_⟩,trivial⟩
    (refine qbv (o:=o) (ver:=ver) (off:=(i+1)*4) (sz:=4) (bytes:=56) (m:=es.length-i) rfl rfl e2 cg ?_ rfl ⟨⟨_,_,rfl,rfl,rfl,rfl,rfl⟩⟩ ?_ ?_;(show min _ _=_;omega);(rw[e3];omega);rw[sd])
    apply qh;refine qeb Kr ?_;exact z6 ⟨rfl,rfl,rfl,trivial⟩
   ·(refine jb (o:=o) (ver:=ver) (off:=0) (len:=es.length+1) (cap:=cap+1) (sz:=4) (i:=i) (j:=es.length+1) (m:=cap+1) rfl rfl rfl ?_ ?_ ?_ Om Om Om ?_;exact⟨_,rfl⟩;exact⟨rfl,rfl⟩;rfl;rw[hi1])
    apply qh;refine x2 [4] Kr rfl ⟨⟨_,rfl,?_⟩,trivial⟩
    (refine jb (o:=o) (ver:=ver) (off:=0) (len:=es.length+1) (cap:=cap+1) (sz:=4) (i:=i+1) (j:=es.length+1) (m:=cap+1) rfl rfl rfl ?_ ?_ ?_ Om Om Om ?_;exact⟨_,rfl⟩;exact⟨rfl,rfl⟩;rfl;rw[lj])
    apply qh;refine x2 [8] Kr rfl ⟨⟨_,rfl,?_⟩,trivial⟩
    (refine qbv (o:=o) (ver:=ver) (off:=(i+1)*4) (sz:=4) (bytes:=56) (m:=es.length-i) rfl rfl e2 cg ?_ rfl ⟨⟨_,_,rfl,rfl,rfl,rfl,rfl⟩⟩ ?_ ?_;(show min _ _=_;omega);(rw[e3];omega);rw[sd])
    apply qh;refine qeb Kr ?_;exact z6 ⟨rfl,rfl,rfl,trivial⟩
  ·(refine jb (o:=o) (ver:=ver) (off:=0) (len:=es.length+1) (cap:=cap+1) (sz:=4) (i:=i) (j:=es.length+1) (m:=cap+1) rfl rfl rfl ?_ ?_ ?_ Om Om Om ?_;exact⟨_,rfl⟩;exact⟨rfl,rfl⟩;rfl;rw[hi1])
   apply qh;refine x2 [3] Kr rfl ⟨⟨_,rfl,?_⟩,trivial⟩
   (apply zn;rfl;rfl;exact q6 Om Om)
   apply qh;refine x2 [4] Kr rfl ⟨⟨_,rfl,?_⟩,trivial⟩
   (refine jb (o:=o) (ver:=ver) (off:=0) (len:=es.length+1) (cap:=cap+1) (sz:=4) (i:=i+1) (j:=es.length+1) (m:=cap+1) rfl rfl rfl ?_ ?_ ?_ Om Om Om ?_;exact⟨_,rfl⟩;exact⟨rfl,rfl⟩;rfl;rw[lj])
   apply qh;refine x2 [8] Kr rfl ⟨⟨_,rfl,?_⟩,trivial⟩
   (refine qbv (o:=o) (ver:=ver) (off:=(i+1)*4) (sz:=4) (bytes:=56) (m:=es.length-i) rfl rfl e2 cg ?_ rfl ⟨⟨_,_,rfl,rfl,rfl,rfl,rfl⟩⟩ ?_ ?_;(show min _ _=_;omega);(rw[e3];omega);rw[sd])
   apply qh;refine qeb Kr ?_;exact z6 ⟨rfl,rfl,rfl,trivial⟩
 .rintro _ ⟨t,rfl⟩
  have fx:(st.set o (AObj.cells ver 168 X1))[o]?=some (.cells ver 168 X1):=kg e2;repeat' (first|apply qo|apply qf|apply qj)
  refine jb (o:=o) (ver:=ver) (off:=0) (len:=es.length+1) (cap:=cap+1) (sz:=4) (i:=i) (j:=es.length+1) (m:=cap+1) rfl rfl rfl ?_ ?_ ?_ Om Om Om ?_
  .exact⟨_,rfl⟩
  .exact⟨rfl,rfl⟩
  .rfl
  rw[hi1];repeat' (first|apply qj)
  refine qbv (o:=o) (ver:=ver) (off:=0+i*4) (sz:=4) (bytes:=56) (L:=1) (m:=1) rfl rfl fx (.sl [entA e] none rfl) ?_ rfl ⟨⟨_,_,rfl,rfl,rfl,rfl,rfl⟩⟩ ?_ ?_
  .show min _ _=_
   omega
  .rw[hsl1]
   omega
  rw[pw];repeat' (first|apply qo|apply qf|apply qh|apply qj|apply qg|apply qu)
  refine qn rfl (q5 rfl) ?_
  show OwnR 4 168 _ st _ (.os o ver 0 (es.length+1) (cap+1)) ((st.set o _).set o (.cells ver 168 Xn))
  rw[Zz,<-hXn];rw[<-hXn]at hsl2;exact⟨.inr ⟨o,ver,cap,_,by rw[Qf,rl],kg e2,hsl2,qld _,by rw[Qf,rl];omega,e6⟩,Sx,λj hj b9=>Qj λe=>b9 (by rw[e];rfl),λo' e8=>.inr e8⟩
set_option maxHeartbeats 4000000 in
theorem znt(es:List EntV)(e:EntV)(i:Nat)(hi:i<es.length)(hl:es.length<1000000)(st:List AObj)(o ver cap:Nat)(pad:List AV)(e2:st[o]?=some (.cells ver 168 (flat (es.map entA)++pad)))(e3:(flat (es.map entA)++pad).length=(cap+1)*4)(e5:es.length=cap+1)(e6:cap+1<=maxLen):
  qp E 181 [.os o ver 0 es.length (cap+1),Iv i,.sl 4 [entA e] none] st λr st'=>OwnR 4 168 ((es.take i++e::es.drop i).map entA) st (.os o ver 0 es.length (cap+1)) r st':=by
 have hI:=insB es e i cap pad hi;have d9:=lt_of_getElem? e2;have hfl1:(flat [entA e]).length=4:=rfl;have ht4:=hI.t4;have hd4:=hI.d4;have lz:=hI.take;have hi1:(if cap+1=i then 0 else 0+i*4)=0+i*4:=if_neg Om;have cg:=λS=>hI.src o ver (es.length-i) (cap+1-i) S e3 Om;have rl:=hI.nl;have t6:=hI.new;have hk9:Iv ((es.length:Int)+1-i)=Iv ((es.length+1-i:Nat):Int):=congrArg (λz:Int=>Iv z) Om;have hkk:i+(es.length+1-i)=es.length+1:=Om
 generalize flat ((es.drop i).map entA)=dz at cg hd4 t6;refine qq Tryz.func181 rfl (Qm rfl) ?_;rw[Qo];generalize flat (es.map entA)++pad=X0 at e2 e3 lz cg;repeat' (first|apply qo|apply qf|apply qh|apply qj|apply qg)
 refine jb (o:=o) (ver:=ver) (off:=0) (len:=es.length) (cap:=cap+1) (sz:=4) (i:=i) (j:=es.length) (m:=cap+1) rfl rfl rfl ?_ ?_ ?_ Om Om Om ?_
 .exact⟨_,rfl⟩
 .exact⟨rfl,rfl⟩
 .rfl
 repeat' (first|(apply jk (n:=1);rfl;rfl;rfl;rfl)|apply qo|apply qf|apply qh|apply qj|apply qg|(apply qt;rfl;rfl;rfl)|(apply qc;rfl;apply vq;exact cAo)|(apply jk;rfl;rfl;rfl;rfl)|(apply zn;rfl;rfl;exact q6 Om Om)|apply qv)
 refine qwd rfl rfl rfl ?_;refine qwh [(0,.os o ver 0 es.length (cap+1)),(1,Iv i),(2,.sl 4 [entA e] none),(7,Iv 1),(8,Iv es.length),(28,Iv ((es.length:Int)+1)),(30,Iv ((cap+1:Nat):Int))] st [] ⟨rfl,rfl,rfl,rfl,rfl,rfl,rfl,trivial⟩ rfl rfl λt=>?_;repeat' (first|apply qo|apply qf|apply qh|apply qj|(apply qt;rfl;rfl;rfl)|(apply qc;rfl;apply va;exact cAo))
 refine jb (o:=o) (ver:=ver) (off:=0) (len:=es.length) (cap:=cap+1) (sz:=4) (i:=0) (j:=i) (m:=cap+1) rfl rfl rfl ?_ ?_ ?_ Om Om Om ?_
 .rfl
 .exact⟨_,rfl⟩
 .rfl
 repeat' (first|apply qj|(apply zn;rfl;rfl;exact q6 Om Om)|(apply wx;rfl;rfl;exact q6 Om Om))
 refine quh (sz:=4) (bytes:=56) (o:=o) (ver:=ver) (n:=i) (cap:=cap+1) (k:=es.length+1-i) (cs:=X0) rfl hk9 e2 rfl rfl ⟨⟨_,_,rfl,rfl,rfl,rfl,rfl⟩⟩ Om Om Om (by rw[e3];omega) (by simp only[maxLen];omega) Om λcap' zs z1 z2 z3=>?_;rw[hkk,lz];refine qwh [(0,.os o ver 0 es.length (cap+1)),(1,Iv i),(2,.sl 4 [entA e] none),(7,Iv 1),(40,.os st.length 0 0 (es.length+1) cap')] (st++[.cells 0 168 (flat ((es.take i).map entA)++zs)]) [] ⟨rfl,rfl,rfl,rfl,rfl,trivial⟩ rfl rfl λt=>?_;obtain⟨cap',rfl⟩:∃c,cap'=c+1:=⟨cap'-1,Om⟩;have hi3:(if cap'+1=i then 0 else 0+i*4)=0+i*4:=if_neg Om;have hi4:(if cap'+1=i+1 then 0 else 0+(i+1)*4)=(i+1)*4:=by rw[if_neg Om];omega
 have sd:z4 (flat ((es.take i).map entA)++zs) (0+i*4) (flat [entA e])=(flat ((es.take i).map entA)++flat [entA e])++zs.drop 4:=qfs _ _ _ (by rw[ht4];omega)
 have pw:z4 ((flat ((es.take i).map entA)++flat [entA e])++zs.drop 4) ((i+1)*4) dz=flat ((es.take i++e::es.drop i).map entA)++(zs.drop 4).drop dz.length:=by
  rw[qfs _ _ _ (by rw[Qe,ht4,hfl1];omega),t6]
 have br:((flat ((es.take i).map entA)++flat [entA e])++zs.drop 4).length=(cap'+1)*4:=by
  simp only[Qe,Zd,ht4,hfl1,z1];omega
 have pm:(flat ((es.take i++e::es.drop i).map entA)++(zs.drop 4).drop dz.length).length=(cap'+1)*4:=by
  rw[<-pw,qkx (by rw[br,hd4];omega),br]
 have hl0:(flat ((es.take i).map entA)++zs).length=(cap'+1)*4:=by
  rw[Qe,ht4,z1];omega
 repeat' (first|apply qo|apply qf|apply qh|apply qj|apply qg)
 refine jb (o:=st.length) (ver:=0) (off:=0) (len:=es.length+1) (cap:=cap'+1) (sz:=4) (i:=i) (j:=es.length+1) (m:=cap'+1) rfl rfl rfl ?_ ?_ ?_ Om Om Om ?_
 .exact⟨_,rfl⟩
 .exact⟨rfl,rfl⟩
 .rfl
 rw[hi3];repeat' (first|apply qj)
 refine qbv (o:=st.length) (ver:=0) (off:=0+i*4) (sz:=4) (bytes:=56) (L:=1) (m:=1) rfl rfl yg (.sl [entA e] none rfl) ?_ rfl ⟨⟨_,_,rfl,rfl,rfl,rfl,rfl⟩⟩ ?_ ?_
 .show min _ _=_
  omega
 .rw[hl0]
  omega
 rw[sd];generalize hX1:(flat ((es.take i).map entA)++flat [entA e])++zs.drop 4=X1 at pw br;have hbo:(st++[AObj.cells 0 168 (flat ((es.take i).map entA)++zs)])[st.length]?=some (.cells 0 168 (flat ((es.take i).map entA)++zs)):=yg;have hS1n:((st++[AObj.cells 0 168 (flat ((es.take i).map entA)++zs)]).set st.length (.cells 0 168 X1))[st.length]?=some (.cells 0 168 X1):=kg hbo
 have hS1o:((st++[AObj.cells 0 168 (flat ((es.take i).map entA)++zs)]).set st.length (.cells 0 168 X1))[o]?=some (.cells ver 168 X0):=by
  rw[Qj Om,Qw d9];exact e2
 have hS1j:∀j,j<st.length->((st++[AObj.cells 0 168 (flat ((es.take i).map entA)++zs)]).set st.length (.cells 0 168 X1))[j]?=st[j]?:=λj hj=>by
  rw[Qj Om,Qw hj]
 have hS1l:((st++[AObj.cells 0 168 (flat ((es.take i).map entA)++zs)]).set st.length (.cells 0 168 X1)).length=st.length+1:=Sx
 repeat' (first|apply qo|apply qh)
 refine qgx [(0,.os o ver 0 es.length (cap+1)),(1,Iv i),(7,Iv 1),(9,.os st.length 0 0 (es.length+1) (cap'+1))] ((st++[AObj.cells 0 168 (flat ((es.take i).map entA)++zs)]).set st.length (.cells 0 168 X1)) [] ⟨rfl,rfl,rfl,rfl,trivial⟩ rfl rfl λt=>?_;generalize(st++[AObj.cells 0 168 (flat ((es.take i).map entA)++zs)]).set st.length (.cells 0 168 X1)=S1 at hS1n hS1o hS1j hS1l;refine qzd (λs=>StA [(9,.os st.length 0 0 (es.length+1) (cap'+1))] (S1.set st.length (.cells 0 168 (flat ((es.take i++e::es.drop i).map entA)++(zs.drop 4).drop dz.length))) [] s) ?_ ?_
 .refine ql2 rfl rfl ?_
  (apply qal 0;rfl;kernel_rfl;kernel_rfl;kernel_rfl;rfl;exact qbf)
  (apply qal 1;rfl;kernel_rfl;kernel_rfl;kernel_rfl;rfl;exact qbf)
  (apply qal 2;rfl;kernel_rfl;kernel_rfl;kernel_rfl;rfl;exact qbf)
  (apply qal 5;rfl;kernel_rfl;kernel_rfl;kernel_rfl;rfl;exact qbf)
  (apply qal 6;rfl;kernel_rfl;kernel_rfl;kernel_rfl;rfl;exact qbf)
  refine x2 [3,7] Kr rfl ⟨⟨_,rfl,?_⟩,⟨_,rfl,?_⟩,trivial⟩
  ·(apply zn;rfl;rfl;exact q6 Om Om)
   apply qh;refine x2 [4,7] Kr rfl ⟨⟨_,rfl,?_⟩,⟨_,rfl,?_⟩,trivial⟩
   ·(refine jb (o:=st.length) (ver:=0) (off:=0) (len:=es.length+1) (cap:=cap'+1) (sz:=4) (i:=i+1) (j:=es.length+1) (m:=cap'+1) rfl rfl rfl ?_ ?_ ?_ Om Om Om ?_;exact⟨_,rfl⟩;exact⟨rfl,rfl⟩;rfl;rw[hi4])
    apply qh;refine x2 [7] Kr rfl ⟨⟨_,rfl,?_⟩,trivial⟩
    (refine jb (o:=o) (ver:=ver) (off:=0) (len:=es.length) (cap:=cap+1) (sz:=4) (i:=i) (j:=es.length) (m:=cap+1) rfl rfl rfl ?_ ?_ ?_ Om Om Om ?_;exact⟨_,rfl⟩;exact⟨rfl,rfl⟩;rfl;rw[hi1])
    apply qh;refine x2 [8] Kr rfl ⟨⟨_,rfl,?_⟩,trivial⟩
    (refine qbv (o:=st.length) (ver:=0) (off:=(i+1)*4) (sz:=4) (bytes:=56) (m:=es.length-i) rfl rfl hS1n (cg S1 hS1o) ?_ rfl ⟨⟨_,_,rfl,rfl,rfl,rfl,rfl⟩⟩ ?_ ?_;(show min _ _=_;omega);(rw[br];omega);rw[pw])
    apply qh;refine qeb Kr ?_;exact z6 ⟨rfl,trivial⟩
   ·(refine jb (o:=o) (ver:=ver) (off:=0) (len:=es.length) (cap:=cap+1) (sz:=4) (i:=i) (j:=es.length) (m:=cap+1) rfl rfl rfl ?_ ?_ ?_ Om Om Om ?_;exact⟨_,rfl⟩;exact⟨rfl,rfl⟩;rfl;rw[hi1])
    apply qh;refine x2 [4] Kr rfl ⟨⟨_,rfl,?_⟩,trivial⟩
    (refine jb (o:=st.length) (ver:=0) (off:=0) (len:=es.length+1) (cap:=cap'+1) (sz:=4) (i:=i+1) (j:=es.length+1) (m:=cap'+1) rfl rfl rfl ?_ ?_ ?_ Om Om Om ?_;exact⟨_,rfl⟩;exact⟨rfl,rfl⟩;rfl;rw[hi4])
    apply qh;refine x2 [8] Kr rfl ⟨⟨_,rfl,?_⟩,trivial⟩
    (refine qbv (o:=st.length) (ver:=0) (off:=(i+1)*4) (sz:=4) (bytes:=56) (m:=es.length-i) rfl rfl hS1n (cg S1 hS1o) ?_ rfl ⟨⟨_,_,rfl,rfl,rfl,rfl,rfl⟩⟩ ?_ ?_;(show min _ _=_;omega);(rw[br];omega);rw[pw])
    apply qh;refine qeb Kr ?_;exact z6 ⟨rfl,trivial⟩
  ·(refine jb (o:=o) (ver:=ver) (off:=0) (len:=es.length) (cap:=cap+1) (sz:=4) (i:=i) (j:=es.length) (m:=cap+1) rfl rfl rfl ?_ ?_ ?_ Om Om Om ?_;exact⟨_,rfl⟩;exact⟨rfl,rfl⟩;rfl;rw[hi1])
   apply qh;refine x2 [3] Kr rfl ⟨⟨_,rfl,?_⟩,trivial⟩
   (apply zn;rfl;rfl;exact q6 Om Om)
   apply qh;refine x2 [4] Kr rfl ⟨⟨_,rfl,?_⟩,trivial⟩
   (refine jb (o:=st.length) (ver:=0) (off:=0) (len:=es.length+1) (cap:=cap'+1) (sz:=4) (i:=i+1) (j:=es.length+1) (m:=cap'+1) rfl rfl rfl ?_ ?_ ?_ Om Om Om ?_;exact⟨_,rfl⟩;exact⟨rfl,rfl⟩;rfl;rw[hi4])
   apply qh;refine x2 [8] Kr rfl ⟨⟨_,rfl,?_⟩,trivial⟩
   (refine qbv (o:=st.length) (ver:=0) (off:=(i+1)*4) (sz:=4) (bytes:=56) (m:=es.length-i) rfl rfl hS1n (cg S1 hS1o) ?_ rfl ⟨⟨_,_,rfl,rfl,rfl,rfl,rfl⟩⟩ ?_ ?_;(show min _ _=_;omega);(rw[br];omega);rw[pw])
   apply qh;refine qeb Kr ?_;exact z6 ⟨rfl,trivial⟩
 .rintro _ ⟨t,rfl⟩
  repeat' (first|apply qo|apply qf|apply qh|apply qj|apply qg|apply qu)
  refine qn rfl (q5 rfl) ?_
  show OwnR 4 168 _ st _ (.os st.length 0 0 (es.length+1) (cap'+1)) (S1.set st.length (.cells 0 168 (flat ((es.take i++e::es.drop i).map entA)++(zs.drop 4).drop dz.length)))
  refine⟨.inr ⟨st.length,0,cap',_,by rw[Qf,rl],kg hS1n,pm,qld _,by rw[Qf,rl];omega,z3⟩,by rw[List.length_set,hS1l];omega,λj hj _=>?_,λo' e8=>?_⟩
  .rw[Qj Om]
   exact hS1j j hj
  .simp only[zq,Qy]at e8
   left;omega
theorem zhi(es:List EntV)(e:EntV)(i:Nat)(hi:i<=es.length)(hl:es.length<1000000)(st:List AObj)(c:AV)(hc:OwnS st 4 168 (es.map entA) c):qp E 181 [c,Iv i,.sl 4 [entA e] none] st λr st'=>OwnR 4 168 ((es.take i++e::es.drop i).map entA) st c r st':=by
 have o0:(es.map entA).length=es.length:=Sx
 have hap:i=es.length->(es.take i++e::es.drop i).map entA=es.map entA++[entA e]:=λh=>by subst h;simp
 rcases hc with⟨h0,hnr⟩|⟨o,ver,cap,pad,rfl,e2,e3,e4,e5,e6⟩
 .have hes:es=[]:=by simpa using h0
  subst hes;obtain rfl:i=0:=by simpa using hi
  rw[hap rfl];exact znr e st c hnr
 .rw[o0]at e5⊢
  by_cases hin:i=es.length
  .rw[hap hin]
   subst hin;exact zns es e hl st o ver cap pad e2 e3 e5 e6
  .by_cases p7:es.length+1<=cap+1
   .exact znu es e i Om hl st o ver cap pad e2 e3 p7 e6
   .exact znt es e i Om hl st o ver cap pad e2 e3 Om e6
end Go.Proofs.YtlekheifonaipaaGreatDoor
namespace Go.Pl
open Go Go.Proofs
def qh4(l:qs)(i:Nat)(x:zg):qs:=match l.ents[i]?with
 |some e=>⟨l.ents.set i ⟨x,e.id⟩,l.next,l.many⟩
 |none=>l
def xf(l:qs)(id:Int)(fs:List Fld):ErrV×qs:=if atF l id<0 then(.num 7,l)else if z0 fs=.no then(.no,qh4 l (atF l id).toNat (yt fs))else(z0 fs,l)
def delL(l:qs)(i:Nat):qs:=⟨l.ents.take i++l.ents.drop (i+1),l.next,l.many-1⟩
def delF(l:qs)(id:Int):ErrV×qs:=if atF l id<0 then(.num 7,l)else(.no,delL l (atF l id).toNat)
def insL(l:qs)(k:Nat)(x:zg):qs:=⟨l.ents.take k++⟨x,l.next⟩::l.ents.drop k,l.next+1,l.many+1⟩
def insF(l:qs)(id:Int)(fs:List Fld):Int×ErrV×qs:=
 if atF l id<0∧id≠0 then(0,.num 7,l)else if z0 fs=.no then(if 400<=l.many then(0,.num 11,l)else(l.next,.no,insL l (atF l id+1).toNat (yt fs)))else(0,z0 fs,l)
structure LB (n:Nat) (l:qs):Prop where
 small:n<900000
 len:l.ents.length<=n
 nx0:1<=l.next
 nx1:l.next<=n+1
 mn0: -(n:Int)<=l.many
 mn1:l.many<=n
theorem zky{n:Nat}{l:qs}(h:LB n l)(hs:n+1<900000)(id:Int)(fs:List Fld):LB (n+1) (xf l id fs).2:=by
 have h1:=h.len;have h2:=h.nx0;have h3:=h.nx1;have h4:=h.mn0;have h5:=h.mn1;unfold xf;split
 .exact⟨hs,by simp only;omega,h2,by simp only;omega,by simp only;omega,by simp only;omega⟩
 .split
  .unfold qh4
   split
   .exact⟨hs,So,h2,by simp only;omega,by simp only;omega,by simp only;omega⟩
   .exact⟨hs,by simp only;omega,h2,by simp only;omega,by simp only;omega,by simp only;omega⟩
  .exact⟨hs,by simp only;omega,h2,by simp only;omega,by simp only;omega,by simp only;omega⟩
theorem zmi{n:Nat}{l:qs}(h:LB n l)(hs:n+1<900000)(id:Int):LB (n+1) (delF l id).2:=by
 have h1:=h.len;have h2:=h.nx0;have h3:=h.nx1;have h4:=h.mn0;have h5:=h.mn1;unfold delF;split
 .exact⟨hs,by simp only;omega,h2,by simp only;omega,by simp only;omega,by simp only;omega⟩
 .exact⟨hs,by simp[delL];omega,h2,by simp only[delL];omega,by simp only[delL];omega,by simp only[delL];omega⟩
theorem zmw{n:Nat}{l:qs}(h:LB n l)(hs:n+1<900000)(id:Int)(fs:List Fld):LB (n+1) (insF l id fs).2.2:=by
 have h1:=h.len;have h2:=h.nx0;have h3:=h.nx1;have h4:=h.mn0;have h5:=h.mn1;have same:LB (n+1) l:=⟨hs,Om,h2,Om,Om,Om⟩;unfold insF;split
 .exact same
 .split
  .split
   .exact same
   .exact⟨hs,by simp[insL];omega,by simp only[insL];omega,by simp only[insL];omega,by simp only[insL];omega,by simp only[insL];omega⟩
  .exact same
end Go.Pl
namespace Go.Proofs.YtlekheifonaipaaGreatDoor
open Go Go.Av Go.RowKit Go.Proofs Go.Pl
def oneF(l:qs)(x:qm):Int×ErrV×qs:=if x.kind=1 then(0,xf l x.id x.fields)else if x.kind=2 then(0,delF l x.id)else insF l x.id x.fields
theorem qk2{n:Nat}{l:qs}(h:LB n l)(hs:n+1<900000)(x:qm):LB (n+1) (oneF l x).2.2:=by
 unfold oneF;split
 .exact zky h hs _ _
 .split
  .exact zmi h hs _
  .exact zmw h hs _ _
theorem za3(l:qs)(hl:l.ents.length<1000000):vb E 83 [.a (v6 l)] 0 (hpF []) ⟨.bx 0 0,kr [],lstH 1 l++vw [],2⟩:=by
 refine xl [.a (v6 l)] [] 0 (.bx 0 0) (lstH 1 l) 2 Tryz.func83 rfl rfl rfl rfl λS F ρ=>?_;apply qd [19];repeat' (first|apply Qa|(intro h;try exact cDd)|exact⟨Tryz.call124⟩|(refine Qb _ ⟨q8x [.sl 4 (l.ents.map entA) none] _ (λ_=>rfl) (λst=>zcp l.ents st hl),?_⟩)|exact cSd|apply qb [19]|refine exr ?_|refine qe ?_)
theorem zm7(n:Nat)(l:qs)(id:Int)(fs:List Fld)(hB:LB n l)(hK:KeyB fs)(hl:fs.length<1000000):vb E 125 [.bx 0 0,.i id,.a (jd fs)] 2 (hpF (lstH 1 l)) ⟨.a (errA (xf l id fs).1),kr (lstH 1 l),lstH 2 (xf l id fs).2++vw (lstH 1 l),3⟩:=by
 refine xl [.bx 0 0,.i id,.a (jd fs)] (lstH 1 l) 2 (.a (errA (xf l id fs).1)) (lstH 2 (xf l id fs).2) 3 Tryz.func125 rfl rfl rfl rfl λS F ρ=>?_;have d7:=hB.len;have hsm:=hB.small;have h1:=qsk l id Om;have h2:=λst=>zbi fs st hK hl;unfold xf;rcases qfw l id with h|⟨i,e,h,he,cq,hid1⟩
 .rw[h]at h1⊢
  rw[if_pos (by decide)];apply qd [];repeat' (first|apply Qa|(intro h;try exact cDd)|exact⟨Tryz.call131⟩|(refine jn h1 ?_)|exact cSd|apply qb []|refine exr ?_|refine qe ?_)
 .rw[h]at h1⊢
  rw[if_neg Om];have hm:(l.ents.map entA)[i]?=some (entA e):=by rw[Qd,he];rfl
  have fc:=lt_of_getElem? hm;unfold yt at h2⊢
  cases hc:z0 fs with
  |no=>
   rw[hc,if_pos rfl]at h2;rw[if_pos rfl,if_pos rfl];unfold qh4;rw[Qh,he];apply qd [];repeat' (first|apply Qa|(intro h;try exact cDd)|exact⟨Tryz.call131⟩|(refine jn h1 ?_)|exact⟨Tryz.call179⟩|refine cpe h2 ?_|(refine qgn (i:=i) rfl rfl rfl rfl rfl rfl Om ?_)|(refine zgo (i:=i) (j:=0) (z:=entA e) (z':=entA ⟨⟨3,zy fs,fs⟩,e.id⟩) (u:=kq ⟨3,zy fs,fs⟩) rfl rfl (λ_=>rfl) rfl rfl rfl hm rfl rfl ?_)|exact cSd|apply qb []|refine exr ?_|refine qe ?_)
   all_goals (simp[List.map_set];done)
  |num m=>
   rw[hc,if_neg Sx]at h2;rw[if_neg Sx];apply qd []
   repeat' (first|apply Qa|(intro h;try exact cDd)|exact⟨Tryz.call131⟩|(refine jn h1 ?_)|exact⟨Tryz.call179⟩|refine cpe h2 ?_|exact cSd|apply qb []|refine exr ?_|refine qe ?_)
  |at' a m=>
   rw[hc,if_neg Sx]at h2;rw[if_neg Sx];apply qd [];repeat' (first|apply Qa|(intro h;try exact cDd)|exact⟨Tryz.call131⟩|(refine jn h1 ?_)|exact⟨Tryz.call179⟩|refine cpe h2 ?_|exact cSd|apply qb []|refine exr ?_|refine qe ?_)
theorem zos(n:Nat)(l:qs)(id:Int)(hB:LB n l):vb E 126 [.bx 0 0,.i id] 2 (hpF (lstH 1 l)) ⟨.a (errA (delF l id).1),kr (lstH 1 l),lstH 2 (delF l id).2++vw (lstH 1 l),3⟩:=by
 refine xl [.bx 0 0,.i id] (lstH 1 l) 2 (.a (errA (delF l id).1)) (lstH 2 (delF l id).2) 3 Tryz.func126 rfl rfl rfl rfl λS F ρ=>?_;have d7:=hB.len;have hsm:=hB.small;have h4:=hB.mn0;have h5:=hB.mn1;have h1:=qsk l id Om;unfold delF;rcases qfw l id with h|⟨i,e,h,he,cq,hid1⟩
 .rw[h]at h1⊢
  rw[if_pos (by decide)];apply qd [];repeat' (first|apply Qa|(intro h;try exact cDd)|exact⟨Tryz.call131⟩|(refine jn h1 ?_)|exact cSd|apply qb []|refine exr ?_|refine qe ?_)
 .rw[h]at h1⊢
  rw[if_neg Om];have fc:=lt_of_getElem? he;have h2:=qus (f:=180) (E:=E) (xs:=l.ents.map entA) [Iv i,Iv ((i:Int)+1)] rfl (λst c hc=>zpd l.ents i fc Om st c hc);unfold delL;rw[Qh];apply qd [];repeat' (first|apply Qa|(intro h;try exact cDd)|exact⟨Tryz.call131⟩|(refine jn h1 ?_)|exact⟨Tryz.call180⟩|(refine jn h2 ?_)|exact cSd|apply qb []|refine exr ?_|refine qe ?_)
theorem zow(n:Nat)(l:qs)(id:Int)(fs:List Fld)(hB:LB n l)(hK:KeyB fs)(hl:fs.length<1000000):vb E 127 [.bx 0 0,.i id,.a (jd fs)] 2 (hpF (lstH 1 l)) ⟨.tu [.i (insF l id fs).1,.a (errA (insF l id fs).2.1)],kr (lstH 1 l),lstH 2 (insF l id fs).2.2++vw (lstH 1 l),3⟩:=by
 refine xl [.bx 0 0,.i id,.a (jd fs)] (lstH 1 l) 2 (.tu [.i (insF l id fs).1,.a (errA (insF l id fs).2.1)]) (lstH 2 (insF l id fs).2.2) 3 Tryz.func127 rfl rfl rfl rfl λS F ρ=>?_;have d7:=hB.len;have hsm:=hB.small;have h4:=hB.mn0;have h5:=hB.mn1;have h6:=hB.nx0;have h7:=hB.nx1;have h1:=qsk l id Om;have h2:=λst=>zbi fs st hK hl;unfold insF;rcases qfw l id with h|⟨i,e,h,he,cq,hid1⟩
 .rw[h]at h1⊢
  by_cases h0:id=0
  .rw[if_neg (λq=>q.2 h0)]
   rw[show((-1:Int)+1).toNat=0 from rfl];unfold yt at h2⊢
   cases hc:z0 fs with
   |no=>
    rw[hc,if_pos rfl]at h2;rw[if_pos rfl,if_pos rfl];by_cases hm:400<=l.many
    .rw[if_pos hm]
     apply qd [];repeat' (first|apply Qa|(intro h;try exact cDd)|exact⟨Tryz.call131⟩|(refine jn h1 ?_)|exact⟨Tryz.call179⟩|refine cpe h2 ?_|exact cSd|apply qb []|refine exr ?_|refine qe ?_)
    .rw[if_neg hm]
     have h3:=qus (f:=181) (E:=E) (xs:=l.ents.map entA) [Iv ((0:Nat):Int),.sl 4 [entA ⟨⟨3,zy fs,fs⟩,l.next⟩] none] rfl (λst c hc=>zhi l.ents ⟨⟨3,zy fs,fs⟩,l.next⟩ (0) Om Om st c hc);unfold insL;apply qd []
     repeat' (first|apply Qa|(intro h;try exact cDd)|exact⟨Tryz.call131⟩|(refine jn h1 ?_)|exact⟨Tryz.call179⟩|refine cpe h2 ?_|exact⟨Tryz.call181⟩|(refine jn h3 ?_)|exact cSd|apply qb []|refine exr ?_|refine qe ?_)
   |num m=>
    rw[hc,if_neg Sx]at h2;rw[if_neg Sx];apply qd []
    repeat' (first|apply Qa|(intro h;try exact cDd)|exact⟨Tryz.call131⟩|(refine jn h1 ?_)|exact⟨Tryz.call179⟩|refine cpe h2 ?_|exact cSd|apply qb []|refine exr ?_|refine qe ?_)
   |at' a m=>
    rw[hc,if_neg Sx]at h2;rw[if_neg Sx];apply qd [];repeat' (first|apply Qa|(intro h;try exact cDd)|exact⟨Tryz.call131⟩|(refine jn h1 ?_)|exact⟨Tryz.call179⟩|refine cpe h2 ?_|exact cSd|apply qb []|refine exr ?_|refine qe ?_)
  .rw[if_pos ⟨by decide,h0⟩]
   apply qd [];repeat' (first|apply Qa|(intro h;try exact cDd)|exact⟨Tryz.call131⟩|(refine jn h1 ?_)|exact cSd|apply qb []|refine exr ?_|refine qe ?_)
 .rw[h]at h1⊢
  have fc:=lt_of_getElem? he;rw[if_neg (λq=>absurd q.1 Om)];rw[show((i:Int)+1).toNat=i+1 from rfl];unfold yt at h2⊢
  cases hc:z0 fs with
  |no=>
   rw[hc,if_pos rfl]at h2;rw[if_pos rfl,if_pos rfl];by_cases hm:400<=l.many
   .rw[if_pos hm]
    apply qd [];repeat' (first|apply Qa|(intro h;try exact cDd)|exact⟨Tryz.call131⟩|(refine jn h1 ?_)|exact⟨Tryz.call179⟩|refine cpe h2 ?_|exact cSd|apply qb []|refine exr ?_|refine qe ?_)
   .rw[if_neg hm]
    have h3:=qus (f:=181) (E:=E) (xs:=l.ents.map entA) [Iv ((i+1:Nat):Int),.sl 4 [entA ⟨⟨3,zy fs,fs⟩,l.next⟩] none] rfl (λst c hc=>zhi l.ents ⟨⟨3,zy fs,fs⟩,l.next⟩ (i+1) Om Om st c hc);unfold insL;apply qd []
    repeat' (first|apply Qa|(intro h;try exact cDd)|exact⟨Tryz.call131⟩|(refine jn h1 ?_)|exact⟨Tryz.call179⟩|refine cpe h2 ?_|exact⟨Tryz.call181⟩|(refine jn h3 ?_)|exact cSd|apply qb []|refine exr ?_|refine qe ?_)
  |num m=>
   rw[hc,if_neg Sx]at h2;rw[if_neg Sx];apply qd []
   repeat' (first|apply Qa|(intro h;try exact cDd)|exact⟨Tryz.call131⟩|(refine jn h1 ?_)|exact⟨Tryz.call179⟩|refine cpe h2 ?_|exact cSd|apply qb []|refine exr ?_|refine qe ?_)
  |at' a m=>
   rw[hc,if_neg Sx]at h2;rw[if_neg Sx];apply qd [];repeat' (first|apply Qa|(intro h;try exact cDd)|exact⟨Tryz.call131⟩|(refine jn h1 ?_)|exact⟨Tryz.call179⟩|refine cpe h2 ?_|exact cSd|apply qb []|refine exr ?_|refine qe ?_)
def kf:Nat->List qm->qs->List Int->ErrV×qs×List Int
 |_,[],l,ids=>(.no,l,ids)
 |k,x::r,l,ids=>if(oneF l x).2.1=.no then kf (k+1) r (oneF l x).2.2 (if 0<(oneF l x).1 then ids++[(oneF l x).1]else ids)else(.at' k (oneF l x).2.1.code,l,ids)
def doF(l:qs)(b:List qm):ErrV×qs×List Int:=if eErr b=.no then kf 0 b l []else(eErr b,l,[])
def doA(r:ErrV×qs×List Int):AV:=match r.1 with
 |.no=>.tu [v6 r.2.1,yh r.2.2,errA .no]
 |e=>.tu [.v (.pointer none),yh [],errA e]
theorem zi4(r:ErrV×qs×List Int):Pure (doA r):=by
 unfold doA;split
 .exact yc (qkq _) (qcr _) (ki _)
 .exact yc (qr _) (qcr _) (ki _)
theorem qrt{l:qs}{x:qm}(h:(oneF l x).2.1≠.no):(oneF l x).2.1.code≠0:=by
 have key:∀fs:List Fld,z0 fs≠.no->(z0 fs).code≠0:=λfs h h'=>h ((qla fs).1 h');unfold oneF at h⊢;split
 .rename_i h1
  rw[if_pos h1]at h;unfold xf at h⊢;split
  .exact(by decide:(ErrV.num 7).code≠0)
  .rename_i h2
   rw[if_neg h2]at h;split
   .rename_i h3
    rw[if_pos h3]at h;exact absurd rfl h
   .exact key _ (by assumption)
 .rename_i h1
  rw[if_neg h1]at h;split
  .rename_i h2
   rw[if_pos h2]at h;unfold delF at h⊢;split
   .exact(by decide:(ErrV.num 7).code≠0)
   .rename_i h3
    rw[if_neg h3]at h;exact absurd rfl h
  .rename_i h2
   rw[if_neg h2]at h;unfold insF at h⊢;split
   .exact(by decide:(ErrV.num 7).code≠0)
   .rename_i h3
    rw[if_neg h3]at h;split
    .rename_i h4
     rw[if_pos h4]at h;split
     .exact(by decide:(ErrV.num 11).code≠0)
     .rename_i h5
      rw[if_neg h5]at h;exact absurd rfl h
    .exact key _ (by assumption)
theorem zfo(n:Nat)(l:qs)(x:qm)(hB:LB n l)(hK:KeyB x.fields)(hl:x.fields.length<1000000):vb E 84 [.bx 0 0,.a (zt x)] 2 (hpF (lstH 1 l)) ⟨.tu [.i (oneF l x).1,.a (errA (oneF l x).2.1)],kr (lstH 1 l),lstH 2 (oneF l x).2.2++vw (lstH 1 l),3⟩:=by
 refine xl [.bx 0 0,.a (zt x)] (lstH 1 l) 2 (.tu [.i (oneF l x).1,.a (errA (oneF l x).2.1)]) (lstH 2 (oneF l x).2.2) 3 Tryz.func84 rfl rfl rfl rfl λS F ρ=>?_;unfold oneF;by_cases h1:x.kind=1
 .rw[if_pos h1]
  have hc:=zm7 n l x.id x.fields hB hK hl;generalize xf l x.id x.fields=r at hc;apply qd [];repeat' (first|apply Qa|(intro h;try exact cDd)|exact⟨Tryz.call125⟩|(refine jn hc ?_)|exact cSd|apply qb []|refine exr ?_|refine qe ?_)
 .rw[if_neg h1]
  by_cases h2:x.kind=2
  .rw[if_pos h2]
   have hc:=zos n l x.id hB;generalize delF l x.id=r at hc;apply qd [];repeat' (first|apply Qa|(intro h;try exact cDd)|exact⟨Tryz.call126⟩|(refine jn hc ?_)|exact cSd|apply qb []|refine exr ?_|refine qe ?_)
  .rw[if_neg h2]
   have hc:=zow n l x.id x.fields hB hK hl;generalize insF l x.id x.fields=r at hc;apply qd [];repeat' (first|apply Qa|(intro h;try exact cDd)|exact⟨Tryz.call127⟩|(refine jn hc ?_)|exact cSd|apply qb []|refine exr ?_|refine qe ?_)
theorem zcw(n:Nat)(l:qs)(b:List qm)(st:List AObj)(hB:LB n l)(hn:n+40<900000)(hE:∀x∈b,EdB x)(hl:b.length<1000000):qp E 39 [v6 l,zh b] st λr st'=>r=doA (doF l b)∧st'=st:=by
 refine qpn [.a (v6 l),.a (zh b)] (zi4 _) Tryz.func39 rfl rfl (λ_=>rfl) rfl λS0=>?_;have s7:=λst=>qon b st _ rfl hE Om;unfold doF
 cases he:eErr b with
 |num m=>
  rw[he]at s7;rw[if_neg Sx];apply qd []
  repeat' (first|apply Qa|(intro h;try exact cDd)|exact⟨Tryz.call67⟩|refine cpe s7 ?_|exact cSd|apply qb []|refine exr ?_|refine qe ?_)
 |at' a m=>
  rw[he]at s7;rw[if_neg Sx];apply qd []
  repeat' (first|apply Qa|(intro h;try exact cDd)|exact⟨Tryz.call67⟩|refine cpe s7 ?_|exact cSd|apply qb []|refine exr ?_|refine qe ?_)
 |no=>
  rw[he]at s7;rw[if_pos rfl];obtain⟨p9,hb40,hg⟩:=qb0 he;have sq:=za3 l (by have:=hB.len;omega);apply qd [];repeat' (first|apply Qa|(intro h;try exact cDd)|exact⟨Tryz.call67⟩|refine cpe s7 ?_|exact⟨Tryz.call83⟩|(refine jn sq ?_)|exact cSd|apply qb []|refine exr ?_|refine qe ?_)
  refine zw (X:=Nat×qs×List Int) (λ(k,q,ids)=>⟨[(8,.bx 0 0),(9,.tp 2),(21,.a (zh b)),(22,.i b.length),(23,.i k)],[(0,some (.cells 166 [.tp 1,.i q.next,.i q.many])),(1,some (.own 4 168 (q.ents.map entA))),(2,some (.tip 1 3 (ids.map λx=>Iv x)))],3⟩)
   (λ(k,q,ids)=>k<=b.length∧LB (n+k) q∧ids.length<=k∧kf k (b.drop k) q ids=kf 0 b l []) (λ(k,q,ids)=>b.length-k) (0,l,[]) ⟨Om,hB,Sx,rfl⟩ ?_ ?_
  .skip
   repeat' (first|apply Qa|(intro h;try exact cDd)|exact cSd|apply qb []|refine exr ?_|refine qe ?_)
   all_goals (simp;done)
  .rintro⟨k,q,ids⟩ ⟨hk,hq,fc,a8⟩
   by_cases e9:k<b.length
   .have hx:b[k]?=some b[k]:=Qc e9
    have g9:(b.map zt)[k]?=some (zt b[k]):=by rw[Qd,hx];rfl
    have hxE:=hE b[k] (Zb e9);have hxf:=(qfe (hg b[k] (Zb e9))).1;rw[Qg e9,kf]at a8;have hidl:(ids.map λx=>Iv x).length=ids.length:=Sx
    generalize b[k]=x at hx g9 hxE hxf a8;have gv:=zfo (n+k) q x hq hxE.keys Om;have nv:=qk2 hq Om x;have ck:=λh=>qrt (l:=q) (x:=x) h;generalize oneF q x=o at gv nv ck a8;obtain⟨id,e,q'⟩:=o;dsimp only at gv nv ck a8
    cases e with
    |no=>
     rw[if_pos rfl]at a8;by_cases h0:0<id
     .rw[if_pos h0]at a8
      apply qd [];repeat' (first|apply Qa|(intro h;try exact cDd)|(refine Qb (k) ⟨Om,_,g9,?_⟩)|exact⟨Tryz.call84⟩|(refine jn gv ?_)|(refine Qb (k+1,q',ids++[id]) ⟨⟨Om,nv,So,a8⟩,by simp only;omega,?_⟩)|exact cSd|apply qb []|refine exr ?_|refine qe ?_)
      all_goals first|(simp;done)|(simp;omega)
     .rw[if_neg h0]at a8
      apply qd [];repeat' (first|apply Qa|(intro h;try exact cDd)|(refine Qb (k) ⟨Om,_,g9,?_⟩)|exact⟨Tryz.call84⟩|(refine jn gv ?_)|(refine Qb (k+1,q',ids) ⟨⟨Om,nv,by first|omega|(simp only;omega),a8⟩,by simp only;omega,?_⟩)|exact cSd|apply qb []|refine exr ?_|refine qe ?_)
      all_goals first|(simp;done)|(simp;omega)
    |num m=>
     rw[if_neg Sx]at a8;rw[<-a8];have hft:=λst=>quw k (.num m) st (ck Sx);apply qd []
     repeat' (first|apply Qa|(intro h;try exact cDd)|(refine Qb (k) ⟨Om,_,g9,?_⟩)|exact⟨Tryz.call84⟩|(refine jn gv ?_)|exact⟨Tryz.call85⟩|refine cpe hft ?_|exact cSd|apply qb []|refine exr ?_|refine qe ?_)
    |at' a m=>
     rw[if_neg Sx]at a8;rw[<-a8];have hft:=λst=>quw k (.at' a m) st (ck Sx);apply qd [];repeat' (first|apply Qa|(intro h;try exact cDd)|(refine Qb (k) ⟨Om,_,g9,?_⟩)|exact⟨Tryz.call84⟩|(refine jn gv ?_)|exact⟨Tryz.call85⟩|refine cpe hft ?_|exact cSd|apply qb []|refine exr ?_|refine qe ?_)
   .have e9:k=b.length:=by omega
    subst e9;rw[Qr,kf]at a8;rw[<-a8];apply qd [];repeat' (first|apply Qa|(intro h;try exact cDd)|exact cSd|apply qb []|refine exr ?_|refine qe ?_)
structure RunV where
 l:qs
 given:List (List Int)
 touched:List Int
def qdq(b:List qm):List Int:=(b.filter λx=>decide (x.kind≠3)).map λx=>x.id
def qaj(r:RunV)(b:List qm):RunV:=⟨(doF r.l b).2.1,r.given++[(doF r.l b).2.2],r.touched++qdq b⟩
def zz:List (List qm)->RunV->ErrV×RunV
 | [],r=>(.no,r)
 |b::q,r=>if(doF r.l b).1=.no then zz q (qaj r b)else(.at' r.given.length 10,r)
def jh(base:qa)(bs:List (List qm)):ErrV×RunV:=if jx base=.no then zz bs ⟨ofF (itsE base),[],[]⟩else(jx base,⟨ofF [],[],[]⟩)
@[reducible] def qnu (g : List (List Int)) : AV := .sl 1 (g.map yh) none
@[reducible] def runA (r : RunV) : AV := .pp [v6 r.l, qnu r.given, yh r.touched]
def zdm(r:ErrV×RunV):AV:=match r.1 with
 |.no=>.tu [runA r.2,errA .no]
 |e=>.tu [.v (.pointer none),errA e]
theorem qi7(g:List (List Int)):Pure (qnu g):=qbi λx hx=>by
 obtain⟨f,_,rfl⟩:=Zs.1 hx;intro y hy;simp only[AV.cells,Qi,Ql,or_false]at hy;rw[hy];exact qcr f
theorem zdn(r:ErrV×RunV):Pure (zdm r):=by
 unfold zdm;split
 .exact ju (qzx λx hx=>by
   simp only[Qi,Ql,or_false]at hx;rcases hx with rfl|rfl|rfl
   .exact qkq _
   .exact qi7 _
   .exact qcr _) (ki _)
 .exact ju (qr _) (ki _)
theorem qg1{n m:Nat}{l:qs}(h:LB n l)(hm:n<=m)(hs:m<900000):LB m l:=by
 have h1:=h.len;have h2:=h.nx0;have h3:=h.nx1;have h4:=h.mn0;have h5:=h.mn1;exact⟨hs,Om,h2,Om,Om,Om⟩
theorem q08:∀(b:List qm)(k n:Nat)(l:qs)(ids:List Int),LB n l->n+b.length<900000->LB (n+b.length) (kf k b l ids).2.1
 | [],k,n,l,ids,h,_=>h
 |x::r,k,n,l,ids,h,hs=>by
  simp only[Qs]at hs⊢;unfold kf;split
  .have:=q08 r (k+1) (n+1) (oneF l x).2.2 (if 0<(oneF l x).1 then ids++[(oneF l x).1]else ids) (qk2 h Om x) Om
   rw[show n+(r.length+1)=n+1+r.length by omega];exact this
  .have h1:=h.len;have h2:=h.nx0;have h3:=h.nx1;have h4:=h.mn0;have h5:=h.mn1
   exact⟨Om,by simp only;omega,h2,by simp only;omega,by simp only;omega,by simp only;omega⟩
theorem qw2{n:Nat}{l:qs}(h:LB n l)(hs:n+40<900000)(b:List qm):LB (n+40) (doF l b).2.1:=by
 unfold doF;split
 .rename_i he
  obtain⟨h1,h2,_⟩:=qb0 he;exact qg1 (q08 b 0 n l [] h Om) Om hs
 .exact qg1 h Om hs
theorem zge:∀(its:List zg)(n:Nat)(l:qs),LB n l->n+its.length<900000->LB (n+its.length) (its.foldl x5 l)
 | [],n,l,h,_=>h
 |x::r,n,l,h,hs=>by
  simp only[Qs]at hs⊢;rw[Zx,show n+(r.length+1)=n+1+r.length by omega];refine zge r (n+1) _ ?_ Om;have h1:=h.len;have h2:=h.nx0;have h3:=h.nx1;have h4:=h.mn0;have h5:=h.mn1;unfold x5;split
  .exact⟨Om,So,by simp only;omega,by simp only;omega,by simp only;omega,by simp only;omega⟩
  .exact⟨Om,So,h2,by simp only;omega,by simp only;omega,by simp only;omega⟩
theorem q6r(text:qa):LB 300000 (ofF (itsE text)):=by
 have h:=qu8 text;have:=zge (itsE text) 0 ⟨[],1,0⟩ ⟨Om,Sx,Sx,Sx,Sx,Sx⟩ Om;exact qg1 this Om Om
@[reducible] def runH (a : Nat) (r : RunV) : List (Nat × Option SR) := [(0, some (.cells 99 [.a (v6 r.l), .tp a, .tp (a + 1)])), (a, some (.tip 1 51 (r.given.map yh))), (a + 1, some (.tip 1 3 (r.touched.map fun x => Iv x)))]
def BB(b:List qm):Prop:=b.length<1000000∧∀x∈b,EdB x
theorem zno(n:Nat)(r:RunV)(b:List qm)(hB:LB n r.l)(hn:n+40<900000)(hg:r.given.length<1000000)(ht:r.touched.length<100000000)(hb:BB b)(hok:(doF r.l b).1=.no):vb E 82 [.bx 0 0,.a (zh b)] 3 (hpF (runH 1 r)) ⟨.a (.v .nilIface),kr (runH 1 r),runH 3 (qaj r b)++vw (runH 1 r),5⟩:=by
 refine xl [.bx 0 0,.a (zh b)] (runH 1 r) 3 (.a (.v .nilIface)) (runH 3 (qaj r b)) 5 Tryz.func82 rfl rfl rfl rfl λS F ρ=>?_;have mc:=λst=>zcw n r.l b st hB hn hb.2 hb.1;unfold qaj;generalize doF r.l b=d at mc hok;obtain⟨e,l',ids⟩:=d;simp only at hok;subst hok;have rg:(r.given.map yh).length=r.given.length:=Sx
 have cz:=hb.1;apply qd [];repeat' (first|apply Qa|(intro h;try exact cDd)|exact⟨Tryz.call39⟩|refine cpe mc ?_|exact cSd|apply qb []|refine exr ?_|refine qe ?_)
 refine zw (X:=Nat) (λk=>⟨[(0,.bx 0 0),(45,.a (zh b)),(46,.i b.length),(47,.i k)],[(0,some (.cells 99 [.a (v6 l'),.tp 3,.tp 4])),(3,some (.tip 1 51 ((r.given++[ids]).map yh))),(4,some (.tip 1 3 ((r.touched++qdq (b.take k)).map λx=>Iv x)))],5⟩)
  (λk=>k<=b.length) (λk=>b.length-k) 0 Om ?_ ?_
 .skip
  repeat' (first|apply Qa|(intro h;try exact cDd)|exact cSd|apply qb []|refine exr ?_|refine qe ?_)
  all_goals (simp[qdq];done)
 .rintro k hk
  by_cases e9:k<b.length
  .have hx:b[k]?=some b[k]:=Qc e9
   have g9:(b.map zt)[k]?=some (zt b[k]):=by rw[Qd,hx];rfl
   have i7:b.take (k+1)=b.take k++[b[k]]:=by rw[Qq,hx];rfl
   have sw:(qdq (b.take k)).length<=k:=by
    unfold qdq;rw[Qf];exact Xa (Zp _ _) So
   generalize b[k]=x at hx g9 i7;by_cases h3:x.kind=3
   .have e:qdq (b.take (k+1))=qdq (b.take k):=by rw[i7];simp[qdq,h3]
    apply qd [];repeat' (first|apply Qa|(intro h;try exact cDd)|(refine Qb (k) ⟨Om,_,g9,?_⟩)|(refine Qb (k+1) ⟨Om,Om,?_⟩)|exact cSd|apply qb []|refine exr ?_|refine qe ?_)
    all_goals (rw[e];done)
   .have e:qdq (b.take (k+1))=qdq (b.take k)++[x.id]:=by rw[i7];simp[qdq,h3]
    apply qd [];repeat' (first|apply Qa|(intro h;try exact cDd)|(refine Qb (k) ⟨Om,_,g9,?_⟩)|(refine Qb (k+1) ⟨Om,Om,?_⟩)|exact cSd|apply qb []|refine exr ?_|refine qe ?_)
    all_goals first|(rw[e];simp;done)|(simp;omega)
  .have e9:k=b.length:=by omega
   subst e9;rw[Qv];apply qd [];repeat' (first|apply Qa|(intro h;try exact cDd)|exact cSd|apply qb []|refine exr ?_|refine qe ?_)
theorem zk3(n:Nat)(r:RunV)(b:List qm)(hB:LB n r.l)(hn:n+40<900000)(hg:r.given.length<1000000)(hb:BB b)(hok:(doF r.l b).1≠.no):vb E 82 [.bx 0 0,.a (zh b)] 3 (hpF (runH 1 r)) ⟨.a (errA (.at' r.given.length 10)),kr (runH 1 r),runH 3 r++vw (runH 1 r),5⟩:=by
 refine xl [.bx 0 0,.a (zh b)] (runH 1 r) 3 (.a (errA (.at' r.given.length 10))) (runH 3 r) 5 Tryz.func82 rfl rfl rfl rfl λS F ρ=>?_;have mc:=λst=>zcw n r.l b st hB hn hb.2 hb.1;have rg:(r.given.map yh).length=r.given.length:=Sx
 generalize doF r.l b=d at mc hok;obtain⟨e,l',ids⟩:=d;simp only at hok
 cases e with
 |no=>exact absurd rfl hok
 |num m=>
  apply qd [];repeat' (first|apply Qa|(intro h;try exact cDd)|exact⟨Tryz.call39⟩|refine cpe mc ?_|exact cSd|apply qb []|refine exr ?_|refine qe ?_)
  all_goals (rw[rg];rfl)
 |at' a m=>
  apply qd [];repeat' (first|apply Qa|(intro h;try exact cDd)|exact⟨Tryz.call39⟩|refine cpe mc ?_|exact cSd|apply qb []|refine exr ?_|refine qe ?_)
  all_goals (rw[rg];rfl)
theorem zbm(base:qa)(bs:List (List qm))(st:List AObj)(hl:base.length<1000000)(hn:bs.length<=14000)(hb:∀b∈bs,BB b∧b.length<=5000):qp E 38 [Sv base,qb7 bs] st λr st'=>r=zdm (jh base bs)∧st'=st:=by
 refine qpn [.s base,.a (qb7 bs)] (zdn _) Tryz.func38 rfl rfl (λ_=>rfl) rfl λS0=>?_;have fj:=λst=>zjv base st hl;have nv:=q6r base;unfold jh;generalize itsE base=its at fj nv
 cases he:jx base with
 |num m=>
  rw[he]at fj;rw[if_neg Sx];apply qd [22]
  repeat' (first|apply Qa|(intro h;try exact cDd)|exact⟨Tryz.call81⟩|refine cpe fj ?_|exact cSd|apply qb [22]|refine exr ?_|refine qe ?_)
 |at' a m=>
  rw[he]at fj;rw[if_neg Sx];apply qd [22]
  repeat' (first|apply Qa|(intro h;try exact cDd)|exact⟨Tryz.call81⟩|refine cpe fj ?_|exact cSd|apply qb [22]|refine exr ?_|refine qe ?_)
 |no=>
  rw[he]at fj;rw[if_pos rfl];apply qd [22];repeat' (first|apply Qa|(intro h;try exact cDd)|exact⟨Tryz.call81⟩|refine cpe fj ?_|exact cSd|apply qb [22]|refine exr ?_|refine qe ?_)
  refine zw (X:=Nat×RunV) (λ(k,r)=>⟨[(8,.bx 0 0),(23,.a (qb7 bs)),(24,.i bs.length),(25,.i k)],[(0,some (.cells 99 [.a (v6 r.l),.tp 1,.tp 2])),(1,some (.tip 1 51 (r.given.map yh))),(2,some (.tip 1 3 (r.touched.map λx=>Iv x)))],3⟩)
   (λ(k,r)=>k<=bs.length∧LB (300000+40*k) r.l∧r.given.length=k∧r.touched.length<=5000*k∧zz (bs.drop k) r=zz bs ⟨ofF its,[],[]⟩) (λ(k,r)=>bs.length-k) (0,⟨ofF its,[],[]⟩) ⟨Om,nv,rfl,Sx,rfl⟩ ?_ ?_
  .skip
   repeat' (first|apply Qa|(intro h;try exact cDd)|exact cSd|apply qb []|refine exr ?_|refine qe ?_)
   all_goals (simp;done)
  .rintro⟨k,r⟩ ⟨hk,hq,rg,sw,a8⟩
   by_cases e9:k<bs.length
   .have hx:bs[k]?=some bs[k]:=Qc e9
    have g9:(bs.map zh)[k]?=some (zh bs[k]):=by rw[Qd,hx];rfl
    obtain⟨hbb,hb5⟩:=hb bs[k] (Zb e9);rw[Qg e9,zz]at a8;generalize bs[k]=b at hx g9 hbb hb5 a8;have hlb2:=qw2 hq Om b;by_cases hok:(doF r.l b).1=.no
    .rw[if_pos hok]at a8
     have i7:=zno (300000+40*k) r b hq Om Om Om hbb hok;have hgl2:(qaj r b).given.length=k+1:=by simp[qaj,rg]
     have htl2:(qaj r b).touched.length<=5000*(k+1):=by
      have:(qdq b).length<=b.length:=by
       unfold qdq;rw[Qf];exact Zp _ _
      simp only[qaj,Qe];omega
     have hlb3:LB (300000+40*(k+1)) (qaj r b).l:=qg1 hlb2 Om Om;generalize qaj r b=r2 at i7 a8 hgl2 htl2 hlb3;apply qd [];repeat' (first|apply Qa|(intro h;try exact cDd)|(refine Qb (k) ⟨Om,_,g9,?_⟩)|exact⟨Tryz.call82⟩|(refine jn i7 ?_)|(refine Qb (k+1,r2) ⟨⟨Om,hlb3,hgl2,htl2,a8⟩,by simp only;omega,?_⟩)|exact cSd|apply qb []|refine exr ?_|refine qe ?_)
    .rw[if_neg hok]at a8
     rw[<-a8];have i7:=zk3 (300000+40*k) r b hq Om Om hbb hok;apply qd [];repeat' (first|apply Qa|(intro h;try exact cDd)|(refine Qb (k) ⟨Om,_,g9,?_⟩)|exact⟨Tryz.call82⟩|(refine jn i7 ?_)|exact cSd|apply qb []|refine exr ?_|refine qe ?_)
   .have e9:k=bs.length:=by omega
    subst e9;rw[Qr,zz]at a8;rw[<-a8];apply qd [];repeat' (first|apply Qa|(intro h;try exact cDd)|exact cSd|apply qb []|refine exr ?_|refine qe ?_)
structure BkB (b:jy):Prop where
 base:b.base.length<1000000
 len:b.batches.length<=14000
 bat:∀x∈b.batches,BB x∧x.length<=5000
theorem zgy(b:List qm):9<=(recE b).length:=by
 unfold recE recF qi8;simp[zb];omega
theorem qye:∀r:List (List qm),9*r.length<=(vf r).length
 | []=>by simp[vf]
 |b::r=>by
  have h1:=qye r;have h2:=zgy b;rw[qa8];simp only[Qe,Qs];omega
theorem qdz{text:qa}{b:jy}(h:xz text b):BkB b:=by
 have h1:=congrArg List.length h.split;have h2:=h.len;have h3:=qye b.batches;simp only[Qe,y8]at h1;refine⟨Om,Om,λx hx=>?_⟩;obtain⟨g1,g2,_⟩:=qb0 (h.good x hx).ok;exact⟨⟨Om,(h.good x hx).B⟩,Om⟩
def qec(b:jy)(n:Int):ErrV×RunV:=if n<0∨(b.batches.length:Int)<n then(.num 1,⟨ofF [],[],[]⟩)else jh b.base (b.batches.take n.toNat)
theorem q2a(b:jy)(n:Int)(st:List AObj)(hB:BkB b):qp E 19 [qas b,Iv n] st λr st'=>r=qxu (qec b n).1 (qec b n).2.l∧st'=st:=by
 refine ze [.a (qas b),.i n] (qnb _ _) Tryz.func19 rfl rfl (λ_=>rfl) rfl λS0=>?_;have cz:=hB.len;have o0:(b.batches.map zh).length=b.batches.length:=Sx
 unfold qec;by_cases hn:n<0∨(b.batches.length:Int)<n
 .rw[if_pos hn]
  apply qd [];repeat' (first|apply Qa|(intro h;try exact cDd)|exact cSd|apply qb []|refine exr ?_|refine qe ?_)
 .rw[if_neg hn]
  obtain⟨k,rfl⟩:∃k:Nat,n=(k:Int):=⟨n.toNat,Om⟩;rw[Qh];have hp:=λst=>zbm b.base (b.batches.take k) st hB.base So (λx hx=>hB.bat x (Zg hx));unfold qb7 at hp;rw[Qz]at hp;generalize jh b.base (b.batches.take k)=p at hp;obtain⟨e,r⟩:=p
  cases e with
  |no=>
   apply qd []
   repeat' (first|apply Qa|(intro h;try exact cDd)|exact⟨Tryz.call38⟩|refine cpe hp ?_|exact cSd|apply qb []|refine exr ?_|refine qe ?_)
  |num m=>
   apply qd []
   repeat' (first|apply Qa|(intro h;try exact cDd)|exact⟨Tryz.call38⟩|refine cpe hp ?_|exact cSd|apply qb []|refine exr ?_|refine qe ?_)
  |at' a m=>
   apply qd [];repeat' (first|apply Qa|(intro h;try exact cDd)|exact⟨Tryz.call38⟩|refine cpe hp ?_|exact cSd|apply qb []|refine exr ?_|refine qe ?_)
theorem zps(b:jy)(st:List AObj)(hB:BkB b):qp E 34 [qas b] st λr st'=>r=qxu (jh b.base b.batches).1 (jh b.base b.batches).2.l∧st'=st:=by
 refine ze [.a (qas b)] (qnb _ _) Tryz.func34 rfl rfl (λ_=>rfl) rfl λS0=>?_;have o0:(b.batches.map zh).length=b.batches.length:=Sx
 have e:qec b (((b.batches.map zh).length:Nat):Int)=jh b.base b.batches:=by
  unfold qec;rw[o0,if_neg Om,Qh,Qv]
 have hp:=λst=>q2a b (((b.batches.map zh).length:Nat):Int) st hB;rw[e]at hp;generalize jh b.base b.batches=p at hp;obtain⟨er,r⟩:=p
 cases er with
 |no=>
  apply qd []
  repeat' (first|apply Qa|(intro h;try exact cDd)|exact⟨Tryz.call19⟩|refine cpe hp ?_|exact cSd|apply qb []|refine exr ?_|refine qe ?_)
 |num m=>
  apply qd []
  repeat' (first|apply Qa|(intro h;try exact cDd)|exact⟨Tryz.call19⟩|refine cpe hp ?_|exact cSd|apply qb []|refine exr ?_|refine qe ?_)
 |at' a m=>
  apply qd [];repeat' (first|apply Qa|(intro h;try exact cDd)|exact⟨Tryz.call19⟩|refine cpe hp ?_|exact cSd|apply qb []|refine exr ?_|refine qe ?_)
def z8(text:qa):ErrV×jy×qs:=if(zx text).1=.no then(if(jh (zx text).2.base (zx text).2.batches).1=.no then(.no,(zx text).2,(jh (zx text).2.base (zx text).2.batches).2.l)else((jh (zx text).2.base (zx text).2.batches).1,qar,ofF []))else((zx text).1,qar,ofF [])
def qym(r:ErrV×jy×qs):AV:=match r.1 with
 |.no=>.tu [qas r.2.1,v6 r.2.2,errA .no]
 |e=>.tu [qas r.2.1,.v (.pointer none),errA e]
theorem q9u(r:ErrV×jy×qs):Pure (qym r):=by
 unfold qym;split
 .exact yc (qfc _) (qkq _) (ki _)
 .exact yc (qfc _) (qr _) (ki _)
theorem zbn(text:qa)(st:List AObj)(hl:text.length<1000000):qp E 16 [Sv text] st λr st'=>r=qym (z8 text)∧st'=st:=by
 refine ze [.s text] (q9u _) Tryz.func16 rfl rfl (λ_=>rfl) rfl λS0=>?_;have r7:=λst=>zab text st hl;have gx:(zx text).1=.no->BkB (zx text).2:=λh=>qdz (qic (text:=text) (b:=(zx text).2) (by rw[<-h]));unfold z8;generalize zx text=q at r7 gx;obtain⟨e,b⟩:=q
 cases e with
 |num m=>
  rw[if_neg Sx];apply qd []
  repeat' (first|apply Qa|(intro h;try exact cDd)|exact⟨Tryz.call29⟩|refine cpe r7 ?_|exact cSd|apply qb []|refine exr ?_|refine qe ?_)
 |at' a m=>
  rw[if_neg Sx];apply qd []
  repeat' (first|apply Qa|(intro h;try exact cDd)|exact⟨Tryz.call29⟩|refine cpe r7 ?_|exact cSd|apply qb []|refine exr ?_|refine qe ?_)
 |no=>
  rw[if_pos rfl];have fj:=λst=>zps b st (gx rfl);dsimp only;generalize jh b.base b.batches=p at fj;obtain⟨e,r⟩:=p
  cases e with
  |no=>
   rw[if_pos rfl];apply qd []
   repeat' (first|apply Qa|(intro h;try exact cDd)|exact⟨Tryz.call29⟩|refine cpe r7 ?_|exact⟨Tryz.call34⟩|refine cpe fj ?_|exact cSd|apply qb []|refine exr ?_|refine qe ?_)
  |num m=>
   rw[if_neg Sx];apply qd []
   repeat' (first|apply Qa|(intro h;try exact cDd)|exact⟨Tryz.call29⟩|refine cpe r7 ?_|exact⟨Tryz.call34⟩|refine cpe fj ?_|exact cSd|apply qb []|refine exr ?_|refine qe ?_)
  |at' a m=>
   rw[if_neg Sx];apply qd [];repeat' (first|apply Qa|(intro h;try exact cDd)|exact⟨Tryz.call29⟩|refine cpe r7 ?_|exact⟨Tryz.call34⟩|refine cpe fj ?_|exact cSd|apply qb []|refine exr ?_|refine qe ?_)
end Go.Proofs.YtlekheifonaipaaGreatDoor
namespace Go.Pl
open Go Go.Proofs Go.Proofs.YtlekheifonaipaaGreatDoor
def trL(ls:List qa):List (qa×Bool):=ls.map λs=>(s,true)
def now0:zg:=⟨2,[],[]⟩
def blkR:Bool->zg->List qa->Option zg
 |_,now,[]=>some now
 |prev,now,t::r=>
  if ko prev t true (trL r) now.fields.length 0≠0∨qx t=1 then none
  else if qx t=4 then blkR true ⟨3,now.raw++t++[10],now.fields++[(zu (t::vk (trL r))).1]⟩ r
  else blkR (decide (qx t=3)) ⟨now.kind,now.raw++t++[10],now.fields⟩ r
def q3m:List (qa×Bool)->Prop
 | []=>True
 |(t,_)::_=>qx t=1
theorem qmm:∀(ls:List qa)(rest:List (qa×Bool)),q3m rest->vk (trL ls++rest)=vk (trL ls)
 | [],[],_=>rfl
 | [],(t,e)::r,h=>by
  have h:qx t=1:=h
  show(if qx t=3 then _ else _)=_
  rw[if_neg Om]
  rfl
 |t::r,rest,h=>by
  show(if qx t=3 then t::vk (trL r++rest)else [])=(if qx t=3 then t::vk (trL r)else [])
  rw[qmm r rest h]
theorem qp6(prev:Bool)(t:qa)(ls:List qa)(rest:List (qa×Bool))(n:Nat)(rec:Int)(h:q3m rest):ko prev t true (trL ls++rest) n rec=ko prev t true (trL ls) n rec:=by
 unfold ko;rw[qmm ls rest h]
theorem zib{prev:Bool}{t:qa}{L:List (qa×Bool)}{n:Nat}{rec:Int}(h:ko prev t true L n 0=0)(hr:qx t=4->n=0->rec<400):ko prev t true L n rec=0:=by
 unfold ko at h⊢;split
 .rename_i h1;rw[if_pos h1]at h;exact h
 .rename_i h1
  rw[if_neg h1]at h;split
  .rfl
  .rename_i h4
   rw[if_neg h4]at h;split
   .rename_i hu;rw[if_pos hu]at h;exact h
   .rename_i hu
    rw[if_neg hu]at h;have h4:=Classical.not_not.1 h4;rw[if_neg];intro hh;rcases hh with hh|hh
    .rw[if_pos (.inl hh)]at h;omega
    .have:=hr h4 hh.1;omega
theorem qy5{prev:Bool}{t:qa}{e:Bool}{L:List (qa×Bool)}{n:Nat}{rec:Int}(h:ko prev t e L n rec=0):ko prev t e L n 0=0:=by
 unfold ko at h⊢;split
 .rename_i h1;rw[if_pos h1]at h;exact h
 .rename_i h1
  rw[if_neg h1]at h;split
  .rfl
  .rename_i h4
   rw[if_neg h4]at h;split
   .rename_i hu;rw[if_pos hu]at h;exact h
   .rename_i hu
    rw[if_neg hu]at h;rw[if_neg];intro hh;rcases hh with hh|hh
    .rw[if_pos (.inl hh)]at h;omega
    .omega
theorem zia{prev:Bool}{t:qa}{e:Bool}{L:List (qa×Bool)}{n:Nat}{rec:Int}(h:ko prev t e L n rec=0):e=true∧10∉t:=by
 unfold ko at h;split at h
 .omega
 .rename_i h1
  refine⟨by cases e with|true=>rfl|false=>exact absurd (.inr (.inr rfl)) h1,λi3=>h1 (.inl ?_)⟩;unfold qx;rw[if_pos i3]
theorem quf{prev:Bool}{t:qa}{L:List (qa×Bool)}{n:Nat}{rec:Int}(h:qx t=1):ko prev t true L n rec=0:=by
 unfold ko;rw[if_neg (by simp[h]),if_pos Om]
theorem ql5:∀(ls:List qa)(prev:Bool)(now x:zg),blkR prev now ls=some x->now.kind=3->x.kind=3
 | [],_,now,x,h,hk=>by cases h;exact hk
 |t::r,prev,now,x,h,hk=>by
  rw[blkR]at h;split at h
  .cases h
  .split at h
   .exact ql5 r _ _ _ h rfl
   .exact ql5 r _ _ _ h hk
theorem qsl:∀(ls:List qa)(prev:Bool)(now x:zg),blkR prev now ls=some x->x.raw=now.raw++zj ls
 | [],_,now,x,h=>by cases h;simp[zj]
 |t::r,prev,now,x,h=>by
  rw[blkR]at h;split at h
  .cases h
  .split at h
   .rw[qsl r _ _ _ h,yj];simp
   .rw[qsl r _ _ _ h,yj];simp
def qqn(x:zg):Prop:=x.kind=3∧x.fields≠[]∨x.kind=2∧x.fields=[]
theorem qnl:∀(ls:List qa)(k:Nat)(prev:Bool)(now x:zg)(rec:Int)(out:List zg)(rest:List (qa×Bool)),q3m rest->blkR prev now ls=some x->qqn now->(now.kind=2->x.kind=3->rec<400)->
  (∃prev',refL k (trL ls++rest) prev now rec out=refL (k+ls.length) rest prev' x (if now.kind=2∧x.kind=3 then rec+1 else rec) out)∧qqn x
 | [],k,prev,now,x,rec,out,rest,hs,h,hk,hr=>by
  cases h
  refine⟨⟨prev,?_⟩,hk⟩;rw[if_neg Om]
  rfl
 |t::r,k,prev,now,x,rec,out,rest,hs,h,hk,hr=>by
  rw[blkR]at h;split at h
  .cases h
  .rename_i hc
   simp only[not_or,Classical.not_not]at hc
   have hrec:qx t=4->now.fields.length=0->rec<400:=λh4 h0=>by
    rw[if_pos h4]at h;rcases hk with hk|hk
    .exact absurd (Zm.1 h0) hk.2
    .exact hr hk.1 (ql5 r _ _ _ h rfl)
   have hw:ko prev t true (trL r++rest) now.fields.length rec=0:=by
    rw[qp6 _ _ _ _ _ _ hs];exact zib hc.1 hrec
   have e7:trL (t::r)++rest=(t,true)::(trL r++rest):=rfl;rw[e7,refL,if_neg (by simp[hw]),if_neg hc.2];split at h
   .rename_i h4
    rw[if_pos h4,qmm r rest hs];have hx3:=ql5 r _ _ _ h rfl;obtain⟨⟨p',e⟩,hkx⟩:=qnl r (k+1) _ _ x (if now.kind=2 then rec+1 else rec) out rest hs h (.inl ⟨rfl,Sx⟩) Sx;refine⟨⟨p',?_⟩,hkx⟩;rw[e,if_neg Sx];simp only[hx3,and_true,Qs];congr 1;omega
   .rename_i h4
    rw[if_neg h4];obtain⟨⟨p',e⟩,hkx⟩:=qnl r (k+1) _ _ x rec out rest hs h hk hr;refine⟨⟨p',?_⟩,hkx⟩;rw[e,Qs];congr 1;omega
theorem qz2:∀(L:List (qa×Bool))(k:Nat)(prev:Bool)(now:zg)(rec:Int)(out its:List zg),refL k L prev now rec out=(none,its)->
  ∃(ls:List qa)(rest:List (qa×Bool))(prev':Bool)(x:zg)(rec':Int)(k':Nat),L=trL ls++rest∧q3m rest∧blkR prev now ls=some x∧refL k' rest prev' x rec' out=(none,its)∧∀t∈ls,10∉t
 | [],k,prev,now,rec,out,its,h=>⟨[],[],prev,now,rec,k,rfl,trivial,rfl,h,Sx⟩
 |(t,e)::r,k,prev,now,rec,out,its,h=>by
  have h0:=h;rw[refL]at h;split at h
  .simp at h
  .rename_i hw
   have hw:=Classical.not_not.1 hw;obtain⟨rfl,i3⟩:=zia hw;split at h
   .rename_i h1
    exact⟨[],(t,true)::r,prev,now,rec,k,rfl,h1,rfl,h0,Sx⟩
   .rename_i h1
    split at h
    .rename_i h4
     obtain⟨ls,rest,p',x,rc,k',rfl,hs,hb,hr,px⟩:=qz2 r _ _ _ _ _ _ h;rw[qmm ls rest hs]at hb;rw[qp6 _ _ _ _ _ _ hs]at hw;refine⟨t::ls,rest,p',x,rc,k',rfl,hs,?_,hr,by simpa using⟨i3,px⟩⟩;rw[blkR,if_neg (by simp[qy5 hw,h1]),if_pos h4];exact hb
    .rename_i h4
     obtain⟨ls,rest,p',x,rc,k',rfl,hs,hb,hr,px⟩:=qz2 r _ _ _ _ _ _ h;rw[qp6 _ _ _ _ _ _ hs]at hw;refine⟨t::ls,rest,p',x,rc,k',rfl,hs,?_,hr,by simpa using⟨i3,px⟩⟩;rw[blkR,if_neg (by simp[qy5 hw,h1]),if_neg h4];exact hb
def qa9(x:zg):Prop:=(∃t,x=⟨1,t++[10],[]⟩∧qx t=1)∨∃ls,ls≠[]∧blkR false now0 ls=some x∧∀t∈ls,10∉t
theorem q12(out:List zg):outR now0 out=out:=rfl
theorem q1t{t:qa}(h:qx t=1):10∉t:=λi3=>by
 unfold qx at h;rw[if_pos i3]at h;omega
theorem zhg:∀(n:Nat)(L:List (qa×Bool))(k:Nat)(rec:Int)(out its:List zg),L.length<=n->refL k L false now0 rec out=(none,its)->(∀x∈out,qa9 x)->∀x∈its,qa9 x:=by
 intro n
 induction n with
 |zero=>
  intro L k rec out its hn h ho;have:L=[]:=Zm.1 Om;subst this;have h:(none,outR now0 out)=(none,its):=h;simp only[Zr,true_and]at h;subst h
  exact ho
 |succ n ih=>
  intro L k rec out its hn h ho;obtain⟨ls,rest,p',x,rc,k',rfl,hs,hb,hr,px⟩:=qz2 L _ _ _ _ _ _ h
  have hout:∀y∈outR x out,qa9 y:=λy hy=>by
   unfold outR at hy;split at hy
   .exact ho y hy
   .rename_i hx
    rcases Qt.1 hy with hy|hy
    .exact ho y hy
    .simp only[Qi,Ql,or_false]at hy
     subst hy;refine .inr ⟨ls,λe=>hx ?_,hb,px⟩;subst e
     cases hb
     rfl
  cases rest with
  |nil=>
   have hr:(none,outR x out)=(none,its):=hr;simp only[Zr,true_and]at hr;subst hr
   exact hout
  |cons y r=>
   obtain⟨t,e⟩:=y;have h1:qx t=1:=hs;rw[refL]at hr;split at hr
   .simp at hr
   .try rw[if_pos h1]at hr
    refine ih r _ _ _ _ (by simp at hn;omega) hr λy hy=>?_;rcases Qt.1 hy with hy|hy
    .exact hout y hy
    .simp only[Qi,Ql,or_false]at hy
     subst hy;exact .inl ⟨t,rfl,h1⟩
theorem qrx{text:qa}(h:(jl text).1=none):∀x∈(jl text).2,qa9 x:=by
 refine zhg _ (zo text) 0 0 [] _ (Zu _) ((qej text).trans (Xb h rfl)) Sx
theorem q85{fs:List Fld}(hg:GF fs)(b9:fs≠[]):qa9 ⟨3,zy fs,fs⟩:=by
 have h:=qx3 hg b9;exact qrx (by rw[h]) _ (by rw[h];simp)
def SepI:List zg->Prop
 | []=>True
 | [_]=>True
 |x::y::r=>(x.kind≠1->y.kind=1)∧SepI (y::r)
def cntI(its:List zg):Nat:=its.countP λx=>x.kind=3
theorem qrl:∀(ls:List qa)(R:qa),(∀s∈ls,10∉s)->zo (zj ls++R)=trL ls++zo R
 | [],R,_=>rfl
 |s::r,R,h=>by
  have hs:=h s Sx;have e:zj (s::r)++R=s++10::(zj r++R):=by rw[yj];simp
  rw[e,wl Sx,v8 _ hs,xw _ hs,qrl r R λx hx=>h x (by simp[hx])];simp[trL]
theorem qt0{t:qa}{R:qa}(h:10∉t):zo (t++[10]++R)=(t,true)::zo R:=by
 have:=qrl [t] R (by simpa using h)
 simpa[zj,trL]using this
theorem qtw{x:zg}(h:qa9 x):x.kind=1∧(∃t,x=⟨1,t++[10],[]⟩∧qx t=1)∨qqn x∧x.raw≠[]∧∃ls,ls≠[]∧blkR false now0 ls=some x∧∀t∈ls,10∉t:=by
 rcases h with⟨t,rfl,ht⟩|⟨ls,b9,hb,px⟩
 .exact .inl ⟨rfl,t,rfl,ht⟩
 .refine .inr ⟨(qnl ls 0 false now0 x 0 [] [] trivial hb (.inr ⟨rfl,rfl⟩) Om).2,?_,ls,b9,hb,px⟩
  rw[qsl _ _ _ _ hb]
  cases ls with
  |nil=>exact absurd rfl b9
  |cons t r=>simp[zj,now0]
theorem qpi:∀(its:List zg)(k:Nat)(rec:Int)(out:List zg),(∀x∈its,qa9 x)->SepI its->rec+cntI its<=400->refL k (zo (wm its)) false now0 rec out=(none,out++its)
 | [],k,rec,out,_,_,_=>by
  have:wm []=[]:=rfl;rw[this,vv]
  simp[refL,q12]
 |x::r,k,rec,out,hok,hsep,hc=>by
  have hraw:wm (x::r)=x.raw++wm r:=rfl;rw[hraw];rcases qtw (hok x Sx)with⟨bn,t,rfl,ht⟩|⟨hkx,hrx,ls,b9,hb,px⟩
  .rw[qt0 (q1t ht),refL,if_neg (by rw[quf ht];simp),if_pos ht,q12]
   have hs:SepI r:=by cases r with|nil=>trivial|cons y q=>exact hsep.2
   have:=qpi r (k+1) rec (out++[⟨1,t++[10],[]⟩]) (λy hy=>hok y (by simp[hy])) hs (by simpa[cntI]using hc);rw[show(⟨2,[],[]⟩:zg)=now0 from rfl,this];simp
  .have hx1:x.kind≠1:=by rcases hkx with h|h<;>omega
   have hc3:x.kind=3->rec<400:=λh=>by simp[cntI,h]at hc;omega
   have tx:x.raw=zj ls:=by rw[qsl _ _ _ _ hb];rfl
   rw[tx,qrl ls _ px]
   match r,hok,hsep,hc with
   | [],hok,hsep,hc=>
    have:wm []=[]:=rfl;rw[this,vv];obtain⟨⟨p',e⟩,_⟩:=qnl ls k false now0 x rec out [] trivial hb (.inr ⟨rfl,rfl⟩) λ_ h=>hc3 h;rw[e,refL];unfold outR
    rw[if_neg hrx]
   |y::q,hok,hsep,hc=>
    have hy1:=hsep.1 hx1;rcases qtw (hok y Sx)with⟨_,t,rfl,ht⟩|⟨rz,_⟩
    .have hraw:wm (⟨1,t++[10],[]⟩::q)=(t++[10])++wm q:=rfl
     rw[hraw,qt0 (q1t ht)];obtain⟨⟨p',e⟩,_⟩:=qnl ls k false now0 x rec out ((t,true)::zo (wm q)) ht hb (.inr ⟨rfl,rfl⟩) λ_ h=>hc3 h;rw[e,refL,if_neg (by rw[quf ht];simp),if_pos ht];have hs:SepI q:=by cases q with|nil=>trivial|cons z q'=>exact hsep.2.2
     have ho:outR x out=out++[x]:=by unfold outR;rw[if_neg hrx]
     rw[ho,show(⟨2,[],[]⟩:zg)=now0 from rfl]
     have sn:(if now0.kind=2∧x.kind=3 then rec+1 else rec)+(cntI q:Int)<=400:=by
      simp only[cntI,Zv]at hc⊢;by_cases h3:x.kind=3
      .rw[if_pos ⟨rfl,h3⟩]
       simp[h3]at hc;omega
      .rw[if_neg λh=>h3 h.2]
       simp[h3]at hc;omega
     rw[qpi q _ _ _ (λy hy=>hok y (by simp[hy])) hs sn];simp
    .exfalso
     rcases rz with h|h<;>omega
theorem qb8(a b:List zg):cntI (a++b)=cntI a+cntI b:=by simp[cntI]
theorem yb(x:zg)(b:List zg):cntI (x::b)=(if x.kind=3 then 1 else 0)+cntI b:=by
 simp only[cntI,Zv,decide_eq_true_eq];omega
theorem q0o:∀(its:List zg)(prev:Bool),SepI (vo prev its)∧(prev=true->∀x,(vo prev its).head?=some x->x.kind=1)
 | [],prev=>⟨trivial,by simp[vo]⟩
 |x::r,prev=>by
  obtain⟨h1,h2⟩:=q0o r (decide (x.kind≠1))
  have key:SepI (x::vo (decide (x.kind≠1)) r):=by
   cases hq:vo (decide (x.kind≠1)) r with
   |nil=>trivial
   |cons y q=>
    rw[hq]at h1 h2;exact⟨λhk=>h2 (by simpa using hk) y rfl,h1⟩
  rw[vo];by_cases hp:prev=true∧x.kind≠1
  .rw[if_pos hp]
   exact⟨⟨λh=>absurd rfl h,key⟩,λ_ y hy=>by simp at hy;subst hy;rfl⟩
  .rw[if_neg hp]
   exact⟨key,λhpr y hy=>by
    simp at hy;subst hy
    exact Classical.byContradiction λh=>hp ⟨hpr,h⟩⟩
theorem q4o:∀(its:List zg)(prev:Bool),(∀x∈its,qa9 x)->(∀x∈vo prev its,qa9 x)∧cntI (vo prev its)=cntI its
 | [],prev,_=>by simp[vo]
 |x::r,prev,h=>by
  obtain⟨h1,h2⟩:=q4o r (decide (x.kind≠1)) λy hy=>h y (by simp[hy]);have hx:=h x Sx;have cz:qa9 ⟨1,[10],[]⟩:=.inl ⟨[],rfl,by decide⟩;rw[vo];split
  .refine⟨λy hy=>?_,by simp only[Ze,Qx,yb];rw[h2];try simp⟩
   simp only[Ze,Qx,Qi]at hy;rcases hy with rfl|rfl|hy
   .exact cz
   .exact hx
   .exact h1 y hy
  .refine⟨λy hy=>?_,by simp only[Ze,Qx,yb];rw[h2];try simp⟩
   simp only[Ze,Qx,Qi]at hy;rcases hy with rfl|hy
   .exact hx
   .exact h1 y hy
theorem q62{its:List zg}(h:∀x∈its,qa9 x)(hc:cntI its<=400):jl (wm (qb6 its))=(none,qb6 its):=by
 obtain⟨h1,h2⟩:=q4o its false h;have:=qpi (qb6 its) 0 0 [] h1 (q0o its false).1 (by unfold qb6;rw[h2];omega);rw[Qx]at this;rw[<-qej];exact this
theorem q6y{now:zg}{out:List zg}(hk:qqn now)(hr:now.kind=3->now.raw≠[]):(cntI (outR now out):Int)=(cntI out:Int)+(if now.kind=3 then 1 else 0):=by
 have h0:cntI []=0:=rfl;unfold outR;by_cases he:now.raw=[]
 .rw[if_pos he,if_neg λh=>hr h he]
  omega
 .rw[if_neg he,qb8,yb,h0]
  by_cases h3:now.kind=3
  .rw[if_pos h3,if_pos h3];omega
  .rw[if_neg h3,if_neg h3];omega
theorem qsx:∀(L:List (qa×Bool))(k:Nat)(prev:Bool)(now:zg)(rec:Int)(out its:List zg),refL k L prev now rec out=(none,its)->qqn now->(now.kind=3->now.raw≠[])->(cntI out:Int)+(if now.kind=3 then 1 else 0)=rec->rec<=400->cntI its<=400
 | [],k,prev,now,rec,out,its,h,hk,hr,hc,hm=>by
  have h:(none,outR now out)=(none,its):=h;simp only[Zr,true_and]at h;subst h;have:=q6y (out:=out) hk hr
  omega
 |(t,e)::r,k,prev,now,rec,out,its,h,hk,hr,hc,hm=>by
  rw[refL]at h;split at h
  .simp at h
  .rename_i hw
   have hw:=Classical.not_not.1 hw;split at h
   .refine qsx r _ _ _ _ _ _ h (.inr ⟨rfl,rfl⟩) Sx ?_ hm
    have:=q6y (out:=out) hk hr;rw[qb8,yb,show cntI []=0 from rfl,if_neg (by omega:¬(1:Int)=3),if_neg (by omega:¬(2:Int)=3)];omega
   .split at h
    .rename_i h4
     refine qsx r _ _ _ _ _ _ h (.inl ⟨rfl,Sx⟩) Sx ?_ ?_
     .rcases hk with hk|hk
      .rw[if_pos hk.1]at hc
       rw[if_pos rfl,if_neg Om];exact hc
      .rw[if_neg Om]at hc
       rw[if_pos rfl,if_pos hk.1];omega
     .rcases hk with hk|hk
      .rw[if_neg Om];exact hm
      .rw[if_pos hk.1]
       unfold ko at hw;split at hw
       .omega
       .rw[if_neg Om]at hw
        split at hw
        .omega
        .split at hw
         .omega
         .rename_i hf
          have:now.fields.length=0:=by rw[hk.2];rfl
          omega
    .exact qsx r _ _ _ _ _ _ h hk (λh3=>by simp) hc hm
theorem zgp{text:qa}(h:(jl text).1=none):cntI (jl text).2<=400:=
 qsx (zo text) 0 false now0 0 [] _ ((qej text).trans (Xb h rfl)) (.inr ⟨rfl,rfl⟩) (by simp[now0]) (by simp[cntI,now0]) Om
structure GL (l:qs):Prop where
 ok:∀e∈l.ents,qa9 e.x∧(0<e.id↔e.x.kind=3)
 nx:1<=l.next
 mn:l.many=cntI (jw l)
 le:cntI (jw l)<=400
theorem zgg{l:qs}{x:zg}(h:GL l)(hx:qa9 x)(hc:cntI (jw l)+cntI [x]<=400):GL (x5 l x):=by
 obtain⟨h1,h2,h3,h4⟩:=h;rw[yb]at hc;unfold x5;by_cases hk:x.kind=3
 .rw[if_pos hk]
  refine⟨λe he=>?_,by simp only;omega,?_,?_⟩
  .rcases Qt.1 he with he|he
   .exact h1 e he
   .simp only[Qi,Ql,or_false]at he
    subst he;exact⟨hx,λ_=>hk,λ_=>by show 0<l.next;omega⟩
  .simp only[jw,Qp,qb8,Za,Zl,yb]at h3⊢
   rw[if_pos hk];simp[cntI]at h3⊢;omega
  .rw[if_pos hk]at hc
   simp only[jw,Qp,qb8,Za,Zl,yb]at hc⊢;rw[if_pos hk];exact hc
 .rw[if_neg hk]
  refine⟨λe he=>?_,h2,?_,?_⟩
  .rcases Qt.1 he with he|he
   .exact h1 e he
   .simp only[Qi,Ql,or_false]at he
    subst he;exact⟨hx,by simp[hk]⟩
  .simp only[jw,Qp,qb8,Za,Zl,yb]at h3⊢
   rw[if_neg hk];simp[cntI]at h3⊢;omega
  .rw[if_neg hk]at hc
   simp only[jw,Qp,qb8,Za,Zl,yb]at hc⊢;rw[if_neg hk];exact hc
theorem q9a(l:qs)(x:zg):jw (x5 l x)=jw l++[x]:=by
 unfold x5 jw;split <;>simp
theorem q10:∀(its:List zg)(l:qs),GL l->(∀x∈its,qa9 x)->cntI (jw l)+cntI its<=400->GL (its.foldl x5 l)
 | [],l,h,_,_=>h
 |x::r,l,h,hx,hc=>by
  rw[yb]at hc;refine q10 r (x5 l x) (zgg h (hx x Sx) ?_) (λy hy=>hx y (by simp[hy])) ?_
  .rw[yb,show cntI []=0 from rfl];omega
  .rw[q9a,qb8,yb]
   rw[show cntI []=0 from rfl];omega
theorem zo1{its:List zg}(hx:∀x∈its,qa9 x)(hc:cntI its<=400):GL (ofF its):=
 q10 its ⟨[],1,0⟩ ⟨Sx,Sx,by simp[jw,cntI],by simp[jw,cntI]⟩ hx (by simpa[jw,cntI]using hc)
theorem q66{fs:List Fld}(h:z0 fs=.no):qa9 (yt fs)∧(yt fs).kind=3:=by
 obtain⟨h1,h2,h3⟩:=qcm h;unfold yt;rw[if_pos h];exact⟨q85 ⟨h2,h3⟩ h1,rfl⟩
theorem qq1{l:List zg}{i:Nat}{x:zg}(h:l[i]?=some x):cntI l=cntI (l.take i)+(if x.kind=3 then 1 else 0)+cntI (l.drop (i+1)):=by
 obtain⟨d9,rfl⟩:=Zj.1 h;have:=congrArg cntI (Qn i l);rw[qb8,Qg d9,yb]at this;omega
theorem q7s{l:qs}(h:GL l)(id:Int)(fs:List Fld):GL (xf l id fs).2:=by
 unfold xf;split
 .exact h
 .rename_i ha
  split
  .rename_i hf
   obtain⟨hp,sc⟩:=q66 hf;rcases qfw l id with g|⟨i,e,g1,g2,g3,g4⟩
   .omega
   .rw[g1,Qh]
    unfold qh4;rw[g2];simp only;have hem:=Zf g2;obtain⟨d9,ft⟩:=Zj.1 g2;have hek:e.x.kind=3:=(h.ok e hem).2.1 Om
    have pk:cntI ((l.ents.set i ⟨yt fs,e.id⟩).map λe=>e.x)=cntI (l.ents.map λe=>e.x):=by
     have a1:=qq1 (l:=l.ents.map λe=>e.x) (i:=i) (x:=e.x) (by simp[g2]);have a2:=qq1 (l:=(l.ents.set i ⟨yt fs,e.id⟩).map λe=>e.x) (i:=i) (x:=yt fs) (by simp[d9]);rw[a1,a2,<-Qz,<-Qz,<-Zi,<-Zi,List.take_set_of_le (Zu _),List.drop_set_of_lt Om,hek,sc]
    refine⟨λy hy=>?_,h.nx,?_,?_⟩
    .rcases List.mem_or_eq_of_mem_set hy with hy|rfl
     .exact h.ok y hy
     .exact⟨hp,λ_=>sc,λ_=>by show 0<e.id;omega⟩
    .exact h.mn.trans (congrArg Int.ofNat pk).symm
    .exact Xa (Nat.le_of_eq pk) h.le
  .exact h
theorem zah{l:qs}(h:GL l)(id:Int):GL (delF l id).2:=by
 unfold delF;split
 .exact h
 .rcases qfw l id with g|⟨i,e,g1,g2,g3,g4⟩
  .omega
  .rw[g1,Qh]
   have hem:=Zf g2;have hek:e.x.kind=3:=(h.ok e hem).2.1 Om;have a1:=qq1 (l:=jw l) (i:=i) (x:=e.x) (by simp[jw,g2]);rw[hek,if_pos rfl]at a1
   have a2:cntI (jw (delL l i))=cntI ((jw l).take i)+cntI ((jw l).drop (i+1)):=by
    unfold delL jw;rw[Qp,qb8,Qz,Zi]
   have hm:=h.mn;have hl:=h.le;refine⟨λy hy=>?_,h.nx,?_,?_⟩
   .rcases Qt.1 hy with hy|hy
    .exact h.ok y (Zg hy)
    .exact h.ok y (Zq hy)
   .rw[a2]
    show l.many-1=_
    omega
   .rw[a2]
    omega
theorem zaw{l:qs}(h:GL l)(id:Int)(fs:List Fld):GL (insF l id fs).2.2:=by
 unfold insF;split
 .exact h
 .split
  .rename_i hf
   obtain⟨hp,sc⟩:=q66 hf;split
   .exact h
   .rename_i hm4
    generalize(atF l id+1).toNat=k
    have a1:cntI (jw (insL l k (yt fs)))=cntI (jw l)+1:=by
     unfold insL jw;rw[Qp,qb8,Za,yb,sc,if_pos rfl,Qz,Zi];have:=congrArg cntI (Qn k (l.ents.map λe=>e.x));rw[qb8]at this;omega
    have hm:=h.mn;have hl:=h.le;have hn:=h.nx;refine⟨λy hy=>?_,?_,?_,?_⟩
    .rcases Qt.1 hy with hy|hy
     .exact h.ok y (Zg hy)
     .rcases Qi.1 hy with rfl|hy
      .exact⟨hp,λ_=>sc,λ_=>by show 0<l.next;omega⟩
      .exact h.ok y (Zq hy)
    .show 1<=l.next+1
     omega
    .rw[a1]
     show l.many+1=_
     omega
    .rw[a1]
     omega
  .exact h
theorem qzt{l:qs}(h:GL l)(x:qm):GL (oneF l x).2.2:=by
 unfold oneF;split
 .exact q7s h _ _
 .split
  .exact zah h _
  .exact zaw h _ _
theorem q06:∀(b:List qm)(k:Nat)(l:qs)(ids:List Int),GL l->GL (kf k b l ids).2.1
 | [],_,l,_,h=>h
 |x::r,k,l,ids,h=>by
  unfold kf;split
  .exact q06 r _ _ _ (qzt h x)
  .exact h
theorem q46{l:qs}(h:GL l)(b:List qm):GL (doF l b).2.1:=by
 unfold doF;split
 .exact q06 b 0 l [] h
 .exact h
theorem qt1:∀(bs:List (List qm))(r:RunV),GL r.l->GL (zz bs r).2.l
 | [],r,h=>h
 |b::bs,r,h=>by
  unfold zz;split
  .exact qt1 bs _ (q46 h b)
  .first|exact q46 h b|exact h
theorem q9h{text:qa}(h:jx text=.no):(jl text).1=none∧text.length<=60000∧itsE text=(jl text).2:=by
 unfold jx at h;unfold itsE;split at h
 .simp at h
 .rename_i hl
  rw[if_neg hl];refine⟨?_,Om,rfl⟩
  cases hp:(jl text).1 with
  |none=>rfl
  |some x=>rw[hp]at h;simp at h
theorem zkh(base:qa)(bs:List (List qm))(h:jx base=.no):GL (jh base bs).2.l:=by
 obtain⟨h1,h2,h3⟩:=q9h h;unfold jh;rw[if_pos h];refine qt1 bs _ (zo1 ?_ ?_)
 .rw[h3];exact qrx h1
 .rw[h3];exact zgp h1
end Go.Pl
namespace Go.Pl
open Go Go.Proofs
def cntF(es:List EntV):Nat:=es.countP λe=>decide (0<e.id)
theorem qq0(es:List EntV)(e:EntV):cntF (es++[e])=cntF es+if 0<e.id then 1 else 0:=by
 unfold cntF;rw[List.countP_append];by_cases h:0<e.id<;>simp[h]
theorem zme(es:List EntV):cntF es<=es.length:=List.countP_le_length
end Go.Pl
namespace Go.Proofs.YtlekheifonaipaaGreatDoor
open Go Go.Av Go.RowKit Go.Proofs Go.Pl
theorem qlm{a b c d:AV}(h1:Pure a)(h2:Pure b)(h3:Pure c)(h4:Pure d):Pure (.tu [a,b,c,d]):=qei λz hz=>by
 simp only[Qi,Ql,or_false]at hz;rcases hz with rfl|rfl|rfl|rfl
 .exact h1
 .exact h2
 .exact h3
 .exact h4
@[reducible] def qga (es : List EntV) : AV := .sl 4 (es.map entA) none
@[reducible] def ku (l : qs) : AV := .ag [qga l.ents, Iv l.next]
theorem zcz(es:List EntV):Pure (qga es):=qbi λx hx=>by
 obtain⟨f,_,rfl⟩:=Zs.1 hx;exact qoq f
theorem qad(l:qs):Pure (ku l):=ye λy hy=>by
 simp only[AV.cells,Qi,Ql,or_false]at hy;rcases hy with rfl|rfl
 .exact zcz _
 .exact qr _
def ofR(text:qa):qs:=if jx text=.no then ofF (itsE text)else⟨[],0,0⟩
theorem q9r{text:qa}(h:jx text=.no):qcu text=.tu [vu (itsE text),Iv (-9),Iv 0]:=by
 unfold qcu itsE;unfold jx at h;split
 .rename_i hb
  rw[if_pos hb]at h;simp at h
 .rename_i hb
  rw[if_neg hb]at h;rcases hp:(jl text).1 with _|⟨a,n⟩
  .rfl
  .rw[hp]at h
   simp at h
theorem zg7(text:qa)(st:List AObj)(hl:text.length<1000000):qp E 46 [Sv text] st λr st'=>r=.tu [ku (ofR text),Iv (jx text).pos,Iv (jx text).code]∧st'=st:=by
 refine ze [.s text] (yc (qad _) (qr _) (qr _)) Tryz.func46 rfl rfl (λ_=>rfl) rfl λS0=>?_;unfold ofR;by_cases gp:jx text=.no
 .have hp:=λst=>qr1 text st hl
  rw[q9r gp]at hp;have fc:=qu8 text;rw[gp,if_pos rfl];generalize itsE text=its at hp fc;have sb:(its.map kq).length=its.length:=Sx
  apply qd [];repeat' (first|apply Qa|(intro h;try exact cDd)|exact⟨Tryz.call92⟩|refine cpe hp ?_|exact cSd|apply qb []|refine exr ?_|refine qe ?_)
  refine zw (X:=Nat×qs) (λ(k,l)=>⟨[(2,.bx 0 0),(5,.a (vu its)),(6,.i (-9)),(8,.bx 1 0),(9,.i k)],[(0,some (.cells 68 [.a zm,.i 0])),(1,some (.cells 68 [.tp 2,.i l.next])),(2,some (.tip 4 190 (l.ents.map entA)))],3⟩)
   (λ(k,l)=>k<=its.length∧l.ents.length=k∧(1<=l.next∧l.next<=k+1)∧(its.drop k).foldl x5 l=ofF its) (λ(k,l)=>its.length-k) (0,⟨[],1,0⟩) ⟨Om,rfl,⟨by decide,by decide⟩,rfl⟩ ?_ ?_
  .skip
   repeat' (first|apply Qa|(intro h;try exact cDd)|exact cSd|apply qb []|refine exr ?_|refine qe ?_)
   all_goals (simp;done)
  .rintro⟨k,l⟩ ⟨hk,hlk,bt,a8⟩
   by_cases e9:k<its.length
   .have hx:its[k]?=some its[k]:=Qc e9
    have g9:(its.map kq)[k]?=some (kq its[k]):=by rw[Qd,hx];rfl
    rw[Qg e9,Zx]at a8;have o0:(l.ents.map entA).length=l.ents.length:=Sx
    generalize its[k]=x at hx g9 a8;by_cases gm:x.kind=3
    .have e:x5 l x=⟨l.ents++[⟨x,l.next⟩],l.next+1,l.many+1⟩:=if_pos gm
     rw[e]at a8;apply qd [];repeat' (first|apply Qa|(intro h;try exact cDd)|(refine Qb (k) ⟨Om,_,g9,?_⟩)|(refine Qb (k+1,⟨l.ents++[⟨x,l.next⟩],l.next+1,l.many+1⟩) ⟨⟨Om,by simp[hlk],by simp only;omega,a8⟩,by simp only;omega,?_⟩)|exact cSd|apply qb []|refine exr ?_|refine qe ?_)
     all_goals (simp;done)
    .have e:x5 l x=⟨l.ents++[⟨x,0⟩],l.next,l.many⟩:=if_neg gm
     rw[e]at a8;apply qd [];repeat' (first|apply Qa|(intro h;try exact cDd)|(refine Qb (k) ⟨Om,_,g9,?_⟩)|(refine Qb (k+1,⟨l.ents++[⟨x,0⟩],l.next,l.many⟩) ⟨⟨Om,by simp[hlk],by simp only;omega,a8⟩,by simp only;omega,?_⟩)|exact cSd|apply qb []|refine exr ?_|refine qe ?_)
     all_goals (simp;done)
   .have e9:k=its.length:=by omega
    subst e9;rw[Qr]at a8;have e:ofF its=l:=a8.symm;rw[e];apply qd [];repeat' (first|apply Qa|(intro h;try exact cDd)|exact cSd|apply qb []|refine exr ?_|refine qe ?_)
 .obtain⟨its,p,n,lv,hp,hn,gn⟩:=qr2 text hl
  have hz:n≠0:=λh=>gp (gn.1 h);rw[if_neg gp,<-hp,<-hn];apply qd [];repeat' (first|apply Qa|(intro h;try exact cDd)|exact⟨Tryz.call92⟩|refine cpe lv ?_|exact cSd|apply qb []|refine exr ?_|refine qe ?_)
theorem qjd(l:qs)(id:Int)(st:List AObj)(hl:l.ents.length<1000000):qp E 98 [ku l,Iv id] st λr st'=>r=Iv (atF l id)∧st'=st:=by
 refine ze [.a (ku l),.i id] (qr _) Tryz.func98 rfl rfl (λ_=>rfl) rfl λS0=>?_;unfold atF;obtain⟨es,nx,mn⟩:=l;dsimp only at hl⊢;have sb:(es.map entA).length=es.length:=Sx
 apply qd [];repeat' (first|apply Qa|(intro h;try exact cDd)|exact cSd|apply qb []|refine exr ?_|refine qe ?_)
 refine zw (X:=Nat) (λk=>⟨[(1,.i id),(2,.a (.pp [qga es,Iv nx])),(5,.i k)],[],0⟩) (λk=>k<=es.length∧(0<id->xb id k (es.drop k)=xb id 0 es)) (λk=>es.length-k) 0 ⟨Om,Sx⟩ ?_ ?_
 .skip
  repeat' (first|apply Qa|(intro h;try exact cDd)|exact cSd|apply qb []|refine exr ?_|refine qe ?_)
  all_goals (simp;done)
 .rintro k ⟨hk,a8⟩
  by_cases h1:id<1
  .rw[if_pos h1]
   apply qd [];repeat' (first|apply Qa|(intro h;try exact cDd)|exact cSd|apply qb []|refine exr ?_|refine qe ?_)
  .rw[if_neg h1]
   have a8:=a8 Om;by_cases e9:k<es.length
   .have hx:es[k]?=some es[k]:=Qc e9
    have g9:(es.map entA)[k]?=some (entA es[k]):=by rw[Qd,hx];rfl
    rw[Qg e9,xb]at a8;generalize es[k]=e at hx g9 a8;by_cases cq:e.id=id
    .rw[if_pos cq]at a8
     rw[<-a8];apply qd [];repeat' (first|apply Qa|(intro h;try exact cDd)|(refine Qb (k) ⟨Om,_,g9,?_⟩)|exact cSd|apply qb []|refine exr ?_|refine qe ?_)
    .rw[if_neg cq]at a8
     apply qd [];repeat' (first|apply Qa|(intro h;try exact cDd)|(refine Qb (k) ⟨Om,_,g9,?_⟩)|(refine Qb (k+1) ⟨⟨Om,λ_=>a8⟩,Om,?_⟩)|exact cSd|apply qb []|refine exr ?_|refine qe ?_)
   .have e9:k=es.length:=by omega
    subst e9;rw[Qr,xb]at a8;rw[<-a8];apply qd [];repeat' (first|apply Qa|(intro h;try exact cDd)|exact cSd|apply qb []|refine exr ?_|refine qe ?_)
theorem zdw(l:qs)(st:List AObj)(hl:l.ents.length<1000000):qp E 147 [ku l] st λr st'=>r=Iv (cntF l.ents)∧st'=st:=by
 refine ze [.a (ku l)] (qr _) Tryz.func147 rfl rfl (λ_=>rfl) rfl λS0=>?_;obtain⟨es,nx,mn⟩:=l;dsimp only at hl⊢;have sb:(es.map entA).length=es.length:=Sx
 apply qd [];repeat' (first|apply Qa|(intro h;try exact cDd)|exact cSd|apply qb []|refine exr ?_|refine qe ?_)
 refine zw (X:=Nat) (λk=>⟨[(1,.a (.pp [qga es,Iv nx])),(3,.i (cntF (es.take k):Nat)),(4,.i k)],[],0⟩) (λk=>k<=es.length) (λk=>es.length-k) 0 Om ?_ ?_
 .skip
  repeat' (first|apply Qa|(intro h;try exact cDd)|exact cSd|apply qb []|refine exr ?_|refine qe ?_)
  all_goals (simp[cntF];done)
 .rintro k hk
  by_cases e9:k<es.length
  .have hx:es[k]?=some es[k]:=Qc e9
   have g9:(es.map entA)[k]?=some (entA es[k]):=by rw[Qd,hx];rfl
   have i7:es.take (k+1)=es.take k++[es[k]]:=by rw[Qq,hx];rfl
   have hct:=qq0 (es.take k) es[k];have gr:=zme (es.take k);have hcl2:(es.take k).length<=k:=So
   rw[<-i7]at hct;generalize es[k]=e at hx g9 hct;by_cases h0:0<e.id
   .rw[if_pos h0]at hct
    apply qd [];repeat' (first|apply Qa|(intro h;try exact cDd)|(refine Qb (k) ⟨Om,_,g9,?_⟩)|(refine Qb (k+1) ⟨Om,Om,?_⟩)|exact cSd|apply qb []|refine exr ?_|refine qe ?_)
    all_goals (simp[hct];done)
   .rw[if_neg h0]at hct
    apply qd [];repeat' (first|apply Qa|(intro h;try exact cDd)|(refine Qb (k) ⟨Om,_,g9,?_⟩)|(refine Qb (k+1) ⟨Om,Om,?_⟩)|exact cSd|apply qb []|refine exr ?_|refine qe ?_)
    all_goals (simp[hct];done)
  .have e9:k=es.length:=by omega
   subst e9;rw[Qv];apply qd [];repeat' (first|apply Qa|(intro h;try exact cDd)|exact cSd|apply qb []|refine exr ?_|refine qe ?_)
theorem qt4(fs:List Fld)(st:List AObj)(h:q3k fs):qp E 146 [jd fs] st λr st'=>r=kq ⟨3,zy fs,fs⟩∧st'=st:=by
 refine ze [.a (jd fs)] (ye (qef _)) Tryz.func146 rfl rfl (λ_=>rfl) rfl λS0=>?_;have h1:=λst=>qyf fs st h;apply qd [];repeat' (first|apply Qa|(intro h;try exact cDd)|exact⟨Tryz.call62⟩|refine cpe h1 ?_|exact cSd|apply qb []|refine exr ?_|refine qe ?_)
end Go.Proofs.YtlekheifonaipaaGreatDoor
namespace Go.Pl
open Go Go.Proofs Go.Av
def dlF(i:Nat)(es:List EntV)(k:Nat):List EntV:=(es.take k).take i++(es.take k).drop (i+1)
theorem zok{i:Nat}{es:List EntV}{k:Nat}{e:EntV}(h:es[k]?=some e):dlF i es (k+1)=dlF i es k++if k=i then []else [e]:=by
 have hk:=lt_of_getElem? h;have hl:(es.take k).length=k:=So
 unfold dlF;rw[Qq,h];simp only[Zt];rw[Zw,Zk,hl];by_cases mg:k=i
 .subst mg
  rw[if_pos rfl];have e1:(es.take k).drop (k+1)=[]:=Qk Om;simp[e1]
 .rw[if_neg mg]
  by_cases d9:k<i
  .have e1:(es.take k).drop (i+1)=[]:=Qk Om
   obtain⟨d,hd⟩:∃d,i-k=d+1:=⟨i-k-1,Om⟩;have hd2:i+1-k=d+1+1:=Om
   rw[e1,hd,hd2];simp
  .have hd:i-k=0:=by omega
   have hd2:i+1-k=0:=Om
   rw[hd,hd2];simp
def inF(j:Nat)(x:EntV)(es:List EntV)(k:Nat):List EntV:=(es.take k).take j++if j<=k then x::(es.take k).drop j else []
theorem zoq{j:Nat}{x:EntV}{es:List EntV}{k:Nat}{e:EntV}(h:es[k]?=some e):inF j x es (k+1)=inF j x es k++e::if j=k+1 then [x]else []:=by
 have hk:=lt_of_getElem? h;have hl:(es.take k).length=k:=So
 unfold inF;rw[Qq,h];simp only[Zt];rw[Zw,Zk,hl];by_cases hjk:j=k+1
 .subst hjk
  have e1:(es.take k).drop (k+1)=[]:=Qk Om;have e2:k+1-k=1:=Om
  rw[if_pos (Zu _),if_pos rfl,if_neg Om,e1,e2];simp
 .rw[if_neg hjk]
  by_cases d9:j<=k
  .have hd:j-k=0:=by omega
   rw[if_pos Om,if_pos d9,hd];simp
  .obtain⟨d,hd⟩:∃d,j-k=d+1:=⟨j-k-1,Om⟩
   rw[if_neg Om,if_neg d9,hd];simp
end Go.Pl
namespace Go.Proofs.YtlekheifonaipaaGreatDoor
open Go Go.Av Go.RowKit Go.Proofs Go.Pl
def rlR(l:qs)(e:ErrV):AV:=.tu [ku l,Iv e.pos,Iv e.code]
theorem zk2(l:qs)(e:ErrV):Pure (rlR l e):=yc (qad _) (qr _) (qr _)
theorem qww(fs:List Fld)(h:z0 fs≠.no):∃p n,(z0 fs).pos=p∧(z0 fs).code=n∧n≠0:=⟨_,_,rfl,rfl,λh'=>h ((qla fs).1 h')⟩
theorem q9s(l:qs)(id:Int)(fs:List Fld)(st:List AObj)(hl:l.ents.length<1000000)(hK:KeyB fs)(o8:fs.length<1000000):qp E 95 [ku l,Iv id,jd fs] st λr st'=>r=rlR (xf l id fs).2 (xf l id fs).1∧st'=st:=by
 refine ze [.a (ku l),.i id,.a (jd fs)] (zk2 _ _) Tryz.func95 rfl rfl (λ_=>rfl) rfl λS0=>?_;have h1:=λst=>qjd l id st hl;have sb:(l.ents.map entA).length=l.ents.length:=Sx
 have h2:=λst=>qlo fs st hK Om;unfold xf rlR;rcases qfw l id with h|⟨i,e,h,he,cq,hid1⟩
 .rw[h]at h1⊢
  rw[if_pos (by decide)];apply qd [];repeat' (first|apply Qa|(intro h;try exact cDd)|exact⟨Tryz.call98⟩|refine cpe h1 ?_|exact cSd|apply qb []|refine exr ?_|refine qe ?_)
 .rw[h]at h1⊢
  rw[if_neg Om];have fc:=lt_of_getElem? he;by_cases hc:z0 fs=.no
  .rw[hc]at h2
   obtain⟨_,g3,g4⟩:=qcm hc;have h3:=λst=>qt4 fs st (qxk g3 g4);rw[if_pos hc];unfold qh4 yt;rw[if_pos hc,Qh,he];simp only
   have i4:∀k e',l.ents[k]?=some e'->(l.ents.set i ⟨⟨3,zy fs,fs⟩,e.id⟩).take (k+1)=(l.ents.set i ⟨⟨3,zy fs,fs⟩,e.id⟩).take k++[if k=i then⟨⟨3,zy fs,fs⟩,e.id⟩else e']:=λk e' h=>by
    have hk:=lt_of_getElem? h;rw[Qq];congr 1;by_cases mg:k=i
    .subst mg
     rw[if_pos rfl,List.getElem?_set_self hk]
     try rfl
    .rw[if_neg mg,Qj (λh=>mg h.symm),h]
     rfl
   have fm:(l.ents.set i ⟨⟨3,zy fs,fs⟩,e.id⟩).length=l.ents.length:=Sx
   generalize l.ents.set i ⟨⟨3,zy fs,fs⟩,e.id⟩=es' at i4 fm;apply qd [];repeat' (first|apply Qa|(intro h;try exact cDd)|exact⟨Tryz.call98⟩|refine cpe h1 ?_|exact⟨Tryz.call145⟩|refine cpe h2 ?_|exact cSd|apply qb []|refine exr ?_|refine qe ?_)
   refine zw (X:=Nat) (λk=>⟨[(2,.a (jd fs)),(3,.a (.pp [qga l.ents,Iv l.next])),(6,.bx 0 0),(9,.i i),(12,.bx 1 0),(13,.i k)],[(0,some (.cells 68 [.a zm,.i 0])),(1,some (.cells 68 [.tp 2,.i l.next])),(2,some (.tip 4 190 ((es'.take k).map entA)))],3⟩)
    (λk=>k<=l.ents.length) (λk=>l.ents.length-k) 0 Om ?_ ?_
   .skip
    repeat' (first|apply Qa|(intro h;try exact cDd)|exact cSd|apply qb []|refine exr ?_|refine qe ?_)
    all_goals first|rfl|(simp;done)
   .rintro k hk
    by_cases e9:k<l.ents.length
    .have hx:l.ents[k]?=some l.ents[k]:=Qc e9
     have g9:(l.ents.map entA)[k]?=some (entA l.ents[k]):=by rw[Qd,hx];rfl
     have i7:=i4 k _ hx;have sw:((es'.take k).map entA).length<=k:=So
     by_cases mg:k=i
     .have rv:l.ents[k]=e:=by
       have h1:=he;rw[<-mg,hx]at h1
       simpa using h1
      rw[rv]at hx g9;rw[if_pos mg]at i7;apply qd [];repeat' (first|apply Qa|(intro h;try exact cDd)|(refine Qb (k) ⟨Om,_,g9,?_⟩)|exact⟨Tryz.call146⟩|refine cpe h3 ?_|(refine Qb (k+1) ⟨Om,Om,?_⟩)|exact absurd mg Om|exact cSd|apply qb []|refine exr ?_|refine qe ?_)
      all_goals first|(rw[i7];simp;done)|omega|(simp;omega)
     .rw[if_neg mg]at i7
      generalize l.ents[k]=e' at hx g9 i7;apply qd [];repeat' (first|apply Qa|(intro h;try exact cDd)|(refine Qb (k) ⟨Om,_,g9,?_⟩)|(refine Qb (k+1) ⟨Om,Om,?_⟩)|exact absurd Om mg|exact cSd|apply qb []|refine exr ?_|refine qe ?_)
      all_goals first|(rw[i7];simp;done)|omega|(simp;omega)
    .have e9:k=l.ents.length:=by omega
     subst e9;rw[Zo Om];apply qd [];repeat' (first|apply Qa|(intro h;try exact cDd)|exact cSd|apply qb []|refine exr ?_|refine qe ?_)
  .obtain⟨p,n,hp,hn,gn⟩:=qww fs hc
   rw[hp,hn]at h2;rw[if_neg hc,hp,hn];apply qd [];repeat' (first|apply Qa|(intro h;try exact cDd)|exact⟨Tryz.call98⟩|refine cpe h1 ?_|exact⟨Tryz.call145⟩|refine cpe h2 ?_|exact cSd|apply qb []|refine exr ?_|refine qe ?_)
theorem zdu(l:qs)(id:Int)(st:List AObj)(hl:l.ents.length<1000000):qp E 96 [ku l,Iv id] st λr st'=>r=.tu [ku (delF l id).2,Iv (delF l id).1.code]∧st'=st:=by
 refine ze [.a (ku l),.i id] (ju (qad _) (qr _)) Tryz.func96 rfl rfl (λ_=>rfl) rfl λS0=>?_;have h1:=λst=>qjd l id st hl;have sb:(l.ents.map entA).length=l.ents.length:=Sx
 unfold delF;rcases qfw l id with h|⟨i,e,h,he,cq,hid1⟩
 .rw[h]at h1⊢
  rw[if_pos (by decide)];apply qd [];repeat' (first|apply Qa|(intro h;try exact cDd)|exact⟨Tryz.call98⟩|refine cpe h1 ?_|exact cSd|apply qb []|refine exr ?_|refine qe ?_)
 .rw[h]at h1⊢
  rw[if_neg Om,Qh];unfold delL;simp only;have fp:dlF i l.ents l.ents.length=l.ents.take i++l.ents.drop (i+1):=by unfold dlF;rw[Qv]
  have pn:∀k,k<=l.ents.length->((dlF i l.ents k).map entA).length<=k:=λk hk=>by
   simp[dlF];omega
  rw[<-fp];apply qd [];repeat' (first|apply Qa|(intro h;try exact cDd)|exact⟨Tryz.call98⟩|refine cpe h1 ?_|exact cSd|apply qb []|refine exr ?_|refine qe ?_)
  refine zw (X:=Nat) (λk=>⟨[(2,.a (.pp [qga l.ents,Iv l.next])),(4,.bx 0 0),(6,.i i),(7,.bx 1 0),(8,.i k)],[(0,some (.cells 68 [.a zm,.i 0])),(1,some (.cells 68 [.tp 2,.i l.next])),(2,some (.tip 4 190 ((dlF i l.ents k).map entA)))],3⟩)
   (λk=>k<=l.ents.length) (λk=>l.ents.length-k) 0 Om ?_ ?_
  .skip
   repeat' (first|apply Qa|(intro h;try exact cDd)|exact cSd|apply qb []|refine exr ?_|refine qe ?_)
   all_goals first|rfl|(simp[dlF];done)|(simp[dlF];rfl)
  .rintro k hk
   by_cases e9:k<l.ents.length
   .have hx:l.ents[k]?=some l.ents[k]:=Qc e9
    have g9:(l.ents.map entA)[k]?=some (entA l.ents[k]):=by rw[Qd,hx];rfl
    have i7:=zok (i:=i) hx;have sw:=pn k hk;rw[Qf]at sw;generalize l.ents[k]=e' at hx g9 i7;by_cases mg:k=i
    .rw[if_pos mg,Qo]at i7
     apply qd [];repeat' (first|apply Qa|(intro h;try exact cDd)|(refine Qb (k+1) ⟨Om,Om,?_⟩)|exact absurd mg Om|exact cSd|apply qb []|refine exr ?_|refine qe ?_)
     all_goals first|(rw[i7];done)|omega|(simp;omega)
    .rw[if_neg mg]at i7
     apply qd [];repeat' (first|apply Qa|(intro h;try exact cDd)|(refine Qb (k) ⟨Om,_,g9,?_⟩)|(refine Qb (k+1) ⟨Om,Om,?_⟩)|exact absurd Om mg|exact cSd|apply qb []|refine exr ?_|refine qe ?_)
     all_goals first|(rw[i7];simp;done)|omega|(simp;omega)
   .have e9:k=l.ents.length:=by omega
    subst e9;apply qd [];repeat' (first|apply Qa|(intro h;try exact cDd)|exact cSd|apply qb []|refine exr ?_|refine qe ?_)
def rlR4(l:qs)(n:Int)(e:ErrV):AV:=.tu [ku l,Iv n,Iv e.pos,Iv e.code]
theorem zhb(l:qs)(n:Int)(e:ErrV):Pure (rlR4 l n e):=qlm (qad _) (qr _) (qr _) (qr _)
set_option maxHeartbeats 4000000 in
theorem zdv(l:qs)(id:Int)(fs:List Fld)(st:List AObj)(hl:l.ents.length<1000000)(hn:1<=l.next∧l.next<1000000)(hM:l.many=cntF l.ents)(hK:KeyB fs)(o8:fs.length<1000000):qp E 97 [ku l,Iv id,jd fs] st λr st'=>r=rlR4 (insF l id fs).2.2 (insF l id fs).1 (insF l id fs).2.1∧st'=st:=by
 refine ze [.a (ku l),.i id,.a (jd fs)] (zhb _ _ _) Tryz.func97 rfl rfl (λ_=>rfl) rfl λS0=>?_;have h1:=λst=>qjd l id st hl;have sb:(l.ents.map entA).length=l.ents.length:=Sx
 have h2:=λst=>qlo fs st hK Om;have h3:=λst=>zdw l st hl;unfold insF rlR4;rw[hM];rcases Decidable.em (atF l id<0∧id≠0)with hb|hb
 .rw[if_pos hb]
  obtain⟨p9,t8⟩:=hb;generalize atF l id=a at p9 h1;apply qd [];repeat' (first|apply Qa|(intro h;try exact cDd)|exact⟨Tryz.call98⟩|refine cpe h1 ?_|exact cSd|apply qb []|refine exr ?_|refine qe ?_)
 .rw[if_neg hb]
  obtain⟨a,j,ha,hj,hjl,hor⟩:∃(a:Int)(j:Nat),atF l id=a∧a+1=(j:Int)∧j<=l.ents.length∧(0<=a∨a= -1∧id=0):=by
   rcases qfw l id with h|⟨i,e,h,he,_⟩
   .exact⟨-1,0,h,rfl,Om,.inr ⟨rfl,Decidable.not_not.1 λh0=>hb ⟨Om,h0⟩⟩⟩
   .have:=lt_of_getElem? he
    exact⟨i,i+1,h,rfl,Om,.inl Om⟩
  rw[ha]at h1 hb⊢;rw[hj,Qh];by_cases hc:z0 fs=.no
  .rw[hc]at h2
   rw[if_pos hc];by_cases hm:400<=(cntF l.ents:Int)
   .rw[if_pos hm]
    generalize cntF l.ents=m at h3 hm;rcases hor with hor|⟨hor,hor2⟩
    .apply qd []
     repeat' (first|apply Qa|(intro h;try exact cDd)|exact⟨Tryz.call98⟩|refine cpe h1 ?_|exact⟨Tryz.call145⟩|refine cpe h2 ?_|exact⟨Tryz.call147⟩|refine cpe h3 ?_|exact cSd|apply qb []|refine exr ?_|refine qe ?_)
    .apply qd []
     repeat' (first|apply Qa|(intro h;try exact cDd)|exact⟨Tryz.call98⟩|refine cpe h1 ?_|exact⟨Tryz.call145⟩|refine cpe h2 ?_|exact⟨Tryz.call147⟩|refine cpe h3 ?_|exact cSd|apply qb []|refine exr ?_|refine qe ?_)
   .rw[if_neg hm]
    generalize cntF l.ents=m at h3 hm;obtain⟨_,g3,g4⟩:=qcm hc;have h4:=λst=>qt4 fs st (qxk g3 g4);unfold insL yt;rw[if_pos hc];simp only
    have fp:inF j ⟨⟨3,zy fs,fs⟩,l.next⟩ l.ents l.ents.length=l.ents.take j++⟨⟨3,zy fs,fs⟩,l.next⟩::l.ents.drop j:=by
     unfold inF;rw[Qv,if_pos hjl]
    have pn:∀k,k<=l.ents.length->((inF j ⟨⟨3,zy fs,fs⟩,l.next⟩ l.ents k).map entA).length<=k+1:=λk hk=>by
     unfold inF;split
     .simp
      omega
     .simp
      omega
    rw[<-fp]
    have h0:0<=a->inF j ⟨⟨3,zy fs,fs⟩,l.next⟩ l.ents 0=[]:=λh=>by
     unfold inF;rw[if_neg Om];simp
    have h00:a= -1->inF j ⟨⟨3,zy fs,fs⟩,l.next⟩ l.ents 0=[⟨⟨3,zy fs,fs⟩,l.next⟩]:=λh=>by
     unfold inF;rw[if_pos Om];simp
    have e7:=λk e'=>zoq (j:=j) (x:=⟨⟨3,zy fs,fs⟩,l.next⟩) (es:=l.ents) (k:=k) (e:=e');generalize inF j ⟨⟨3,zy fs,fs⟩,l.next⟩ l.ents=iF at pn h0 h00 e7;rcases hor with hor|⟨hor,hor2⟩
    .have h0:=h0 hor
     clear h00;apply qd [];repeat' (first|apply Qa|(intro h;try exact cDd)|exact⟨Tryz.call98⟩|refine cpe h1 ?_|exact⟨Tryz.call145⟩|refine cpe h2 ?_|exact⟨Tryz.call147⟩|refine cpe h3 ?_|exact⟨Tryz.call146⟩|refine cpe h4 ?_|exact cSd|apply qb []|refine exr ?_|refine qe ?_)
     refine zw (X:=Nat) (λk=>⟨[(3,.a (.pp [qga l.ents,Iv l.next])),(6,.bx 0 0),(10,.i a),(13,.bx 1 0),(14,.bx 2 0),(15,.i k)],[(0,some (.cells 68 [.a zm,.i 0])),(1,some (.cells 68 [.tp 3,.i (l.next+1)])),(2,some (.cells 190 [.i 3,.s (zy fs),.a (jd fs),.i l.next])),(3,some (.tip 4 190 ((iF k).map entA)))],4⟩)
      (λk=>k<=l.ents.length) (λk=>l.ents.length-k) 0 Om ?_ ?_
     .skip
      repeat' (first|apply Qa|(intro h;try exact cDd)|exact cSd|apply qb []|refine exr ?_|refine qe ?_)
      all_goals first|rfl|(simp[h0];done)|(simp[h0];rfl)
     .rintro k hk
      by_cases e9:k<l.ents.length
      .have hx:l.ents[k]?=some l.ents[k]:=Qc e9
       have g9:(l.ents.map entA)[k]?=some (entA l.ents[k]):=by rw[Qd,hx];rfl
       have i7:=e7 k _ hx;have sw:=pn k hk;rw[Qf]at sw;generalize l.ents[k]=e' at hx g9 i7;by_cases mg:j=k+1
       .rw[if_pos mg]at i7
        apply qd [];repeat' (first|apply Qa|(intro h;try exact cDd)|(refine Qb (k) ⟨Om,_,g9,?_⟩)|(refine Qb (k+1) ⟨Om,Om,?_⟩)|exact absurd mg Om|exact cSd|apply qb []|refine exr ?_|refine qe ?_)
        all_goals first|(rw[i7];simp;done)|omega|(simp;omega)
       .rw[if_neg mg]at i7
        apply qd [];repeat' (first|apply Qa|(intro h;try exact cDd)|(refine Qb (k) ⟨Om,_,g9,?_⟩)|(refine Qb (k+1) ⟨Om,Om,?_⟩)|exact absurd Om mg|exact cSd|apply qb []|refine exr ?_|refine qe ?_)
        all_goals first|(rw[i7];simp;done)|omega|(simp;omega)
      .have e9:k=l.ents.length:=by omega
       subst e9;apply qd [];repeat' (first|apply Qa|(intro h;try exact cDd)|exact cSd|apply qb []|refine exr ?_|refine qe ?_)
    .have hz:=h00 hor
     clear h00 h0;subst hor;apply qd [];repeat' (first|apply Qa|(intro h;try exact cDd)|exact⟨Tryz.call98⟩|refine cpe h1 ?_|exact⟨Tryz.call145⟩|refine cpe h2 ?_|exact⟨Tryz.call147⟩|refine cpe h3 ?_|exact⟨Tryz.call146⟩|refine cpe h4 ?_|exact cSd|apply qb []|refine exr ?_|refine qe ?_)
     refine zw (X:=Nat) (λk=>⟨[(3,.a (.pp [qga l.ents,Iv l.next])),(6,.bx 0 0),(10,.i (-1)),(13,.bx 1 0),(14,.bx 2 0),(15,.i k)],[(0,some (.cells 68 [.a zm,.i 0])),(1,some (.cells 68 [.tp 3,.i (l.next+1)])),(2,some (.cells 190 [.i 3,.s (zy fs),.a (jd fs),.i l.next])),(3,some (.tip 4 190 ((iF k).map entA)))],4⟩)
      (λk=>k<=l.ents.length) (λk=>l.ents.length-k) 0 Om ?_ ?_
     .skip
      repeat' (first|apply Qa|(intro h;try exact cDd)|exact cSd|apply qb []|refine exr ?_|refine qe ?_)
      all_goals first|rfl|(simp[hz];done)|(simp[hz];rfl)
     .rintro k hk
      by_cases e9:k<l.ents.length
      .have hx:l.ents[k]?=some l.ents[k]:=Qc e9
       have g9:(l.ents.map entA)[k]?=some (entA l.ents[k]):=by rw[Qd,hx];rfl
       have i7:=e7 k _ hx;have sw:=pn k hk;rw[Qf]at sw;generalize l.ents[k]=e' at hx g9 i7;rw[if_neg Om]at i7;apply qd [];repeat' (first|apply Qa|(intro h;try exact cDd)|(refine Qb (k) ⟨Om,_,g9,?_⟩)|(refine Qb (k+1) ⟨Om,Om,?_⟩)|exact cSd|apply qb []|refine exr ?_|refine qe ?_)
       all_goals first|(rw[i7];simp;done)|omega|(simp;omega)
      .have e9:k=l.ents.length:=by omega
       subst e9;apply qd [];repeat' (first|apply Qa|(intro h;try exact cDd)|exact cSd|apply qb []|refine exr ?_|refine qe ?_)
  .obtain⟨p,n,hp,hn,gn⟩:=qww fs hc
   rw[hp,hn]at h2;rw[if_neg hc,hp,hn];rcases hor with hor|⟨hor,hor2⟩
   .apply qd []
    repeat' (first|apply Qa|(intro h;try exact cDd)|exact⟨Tryz.call98⟩|refine cpe h1 ?_|exact⟨Tryz.call145⟩|refine cpe h2 ?_|exact cSd|apply qb []|refine exr ?_|refine qe ?_)
   .apply qd []
    repeat' (first|apply Qa|(intro h;try exact cDd)|exact⟨Tryz.call98⟩|refine cpe h1 ?_|exact⟨Tryz.call145⟩|refine cpe h2 ?_|exact cSd|apply qb []|refine exr ?_|refine qe ?_)
end Go.Proofs.YtlekheifonaipaaGreatDoor
