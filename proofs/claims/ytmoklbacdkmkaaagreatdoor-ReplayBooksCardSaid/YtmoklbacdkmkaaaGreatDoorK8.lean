/- Contracts and plain facts that the closing text leans on (part 8). No condition of their own beyond those that each states. -/
import Derived.Test.YtmoklbacdkmkaaaGreatDoorK7
set_option maxRecDepth 100000
set_option linter.unusedVariables false
set_option linter.unusedSimpArgs false
namespace Go.Pl
open Go Go.Proofs
def qsn (fs:List Fld):qb:=if jl fs = .no then zx fs else []
def qb2 (fs:List Fld):zm:=if jl fs = .no then⟨3,zx fs,fs⟩ else⟨0,[],[]⟩
def vh (its:List zm):qb:=its.flatMap fun x=>x.raw
theorem qaz (a b:List zm):vh (a++b)=vh a++vh b:=by simp [vh]
theorem qbj (x:zm):vh [x]=x.raw:=by simp [vh]
def wr (prev:Bool):List zm→List zm
 | []=>[]
 |x::r=>(if prev=true∧x.kind≠1 then [⟨1,[10],[]⟩,x] else [x])++wr (decide (x.kind≠1)) r
def qaj (its:List zm):List zm:=wr false its
def ke (l:q7):List zm:=l.ents.map fun e=>e.x
def qm5 (l:q7):qb:=vh (qaj (ke l))
end Go.Pl
namespace Go.Proofs.YtmoklbacdkmkaaaGreatDoor
open Go Go.Av Go.RowKit Go.Proofs Go.Pl
theorem q5o (fs:List Fld) (st:List AObj) (hK:KeyB fs) (hl:fs.length<9223372036854775808):qm E 227 [zz fs] st fun r st'=>r = .tu [Sv (qsn fs),errA (jl fs)]∧st'=st:=by
 refine ze [.a (zz fs)] (kg (qq _) (kp _)) Tryz.func227 rfl rfl (fun _=>rfl) rfl fun S0=>?_
 unfold qsn
 cases he:jl fs with
 |no=>
  rw [if_pos rfl]
  have h1:=fun st=>qkr fs st _ he hK hl
  obtain⟨_,h3,h4⟩:=qeh he
  have h2:=fun st=>qqi fs st h3 h4
  apply qd []
  repeat' (first|apply And.intro|(intro h;try exact cDd)|exact⟨Tryz.call185⟩|refine cpe h1 ?_|exact⟨Tryz.call135⟩|refine cpe h2 ?_|exact cSd|apply qa []|refine exr ?_|refine qh ?_)
 |num n=>
  rw [if_neg (by simp)]
  have h1:=fun st=>qkr fs st _ he hK hl
  apply qd []
  repeat' (first|apply And.intro|(intro h;try exact cDd)|exact⟨Tryz.call185⟩|refine cpe h1 ?_|exact cSd|apply qa []|refine exr ?_|refine qh ?_)
 |at' a n=>
  rw [if_neg (by simp)]
  have h1:=fun st=>qkr fs st _ he hK hl
  apply qd []
  repeat' (first|apply And.intro|(intro h;try exact cDd)|exact⟨Tryz.call185⟩|refine cpe h1 ?_|exact cSd|apply qa []|refine exr ?_|refine qh ?_)
theorem q0n (fs:List Fld) (st:List AObj) (hK:KeyB fs) (hl:fs.length<1000000):qm E 186 [zz fs] st fun r st'=>r = .tu [z0 (qb2 fs),errA (jl fs)]∧st'=st:=by
 refine ze [.a (zz fs)] (kg (qae (qfh _)) (kp _)) Tryz.func186 rfl rfl (fun _=>rfl) rfl fun S0=>?_
 have h1:=fun st=>q5o fs st hK (by omega)
 have h2:=fun st=>qgn fs st hl
 unfold qsn at h1
 unfold qb2
 cases he:jl fs with
 |no=>
  rw [he,if_pos rfl] at h1
  rw [if_pos rfl]
  apply qd []
  repeat' (first|apply And.intro|(intro h;try exact cDd)|exact⟨Tryz.call227⟩|refine cpe h1 ?_|exact⟨Tryz.call80⟩|refine cpe h2 ?_|exact cSd|apply qa []|refine exr ?_|refine qh ?_)
 |num n=>
  rw [he,if_neg (by simp)] at h1
  rw [if_neg (by simp)]
  apply qd []
  repeat' (first|apply And.intro|(intro h;try exact cDd)|exact⟨Tryz.call227⟩|refine cpe h1 ?_|exact cSd|apply qa []|refine exr ?_|refine qh ?_)
 |at' a n=>
  rw [he,if_neg (by simp)] at h1
  rw [if_neg (by simp)]
  apply qd []
  repeat' (first|apply And.intro|(intro h;try exact cDd)|exact⟨Tryz.call227⟩|refine cpe h1 ?_|exact cSd|apply qa []|refine exr ?_|refine qh ?_)
theorem q7k (x:zm) (st:List AObj) (hl:x.fields.length<1000000):qm E 158 [z0 x] st fun r st'=>r=z0 x∧st'=st:=by
 refine ze [.a (z0 x)] (qae (qfh _)) Tryz.func158 rfl rfl (fun _=>rfl) rfl fun S0=>?_
 have h2:=fun st=>qgn x.fields st hl
 apply qd [1]
 repeat' (first|apply And.intro|(intro h;try exact cDd)|exact⟨Tryz.call80⟩|refine cpe h2 ?_|exact cSd|apply qa [1]|refine exr ?_|refine qh ?_)
structure ItsB (its:List zm):Prop where
 len:its.length≤1000000
 fld:∀ x∈its,x.fields.length<1000000
theorem qlo (prev:Bool):∀ its:List zm,(wr prev its).length≤2 * its.length
 | []=>by simp [wr]
 |x::r=>by
  have ih:=qlo (decide (x.kind≠1)) r
  unfold wr
  split <;> simp only [List.length_append,List.length_cons,List.length_nil] <;> omega
theorem q8v (its:List zm) (st:List AObj) (hB:ItsB its):qm E 93 [ji its] st fun r st'=>r=ji (qaj its)∧st'=st:=by
 refine ze [.a (ji its)] (yb _) Tryz.func93 rfl rfl (fun _=>rfl) rfl fun S0=>?_
 have hln:=hB.len
 apply qd []
 repeat' (first|apply And.intro|(intro h;try exact cDd)|exact cSd|apply qa []|refine exr ?_|refine qh ?_)
 refine zq (X:=Nat×List zm) (fun (k,out)=>⟨[(0,.a (ji its)),(3,.tp 0),(6,.a (ji its)),(7,.i its.length),(8,.i k)],[(0,some (.tip 3 137 (out.map z0)))],1⟩)
  (fun (k,out)=>k≤its.length∧out.length≤2 * k∧∃ prev,(prev=true↔∃ y,0<k∧its[k - 1]? = some y∧y.kind≠1)∧out++wr prev (its.drop k)=qaj its) (fun (k,out)=>its.length - k) (0,[]) ⟨by omega,by simp,false,by simp,rfl⟩ ?_ ?_
 ·skip
  repeat' (first|apply And.intro|(intro h;try exact cDd)|exact cSd|apply qa []|refine exr ?_|refine qh ?_)
  all_goals (simp;done)
 ·rintro⟨k,out⟩ ⟨hk,hol,prev,hpv,hrun⟩
  by_cases hkn:k<its.length
  ·have hx:its[k]? = some its[k]:=List.getElem?_eq_getElem hkn
   have hxm:(its.map z0)[k]? = some (z0 its[k]):=by rw [List.getElem?_map,hx];rfl
   have hxf:=hB.fld its[k] (List.getElem_mem hkn)
   rw [List.drop_eq_getElem_cons hkn,wr] at hrun
   generalize its[k]=x at hx hxm hrun hxf
   have hcp:=fun st=>q7k x st hxf
   have hml:(out.map z0).length=out.length:=by simp
   have hnext:(decide (x.kind≠1)=true↔∃ y,0<k+1∧its[k+1 - 1]? = some y∧y.kind≠1):=by
    rw [decide_eq_true_iff,Nat.add_sub_cancel,hx]
    constructor
    ·intro h
     exact⟨x,by omega,rfl,h⟩
    ·rintro⟨y,_,h1,h2⟩
     simp only [Option.some.injEq] at h1
     rw [h1]
     exact h2
   by_cases hk0:k=0
   ·have hp:¬ (prev=true):=fun h=>by
     obtain⟨_,h,_⟩:=hpv.1 h
     omega
    rw [if_neg (fun h=>hp h.1)] at hrun
    apply qd []
    repeat' (first|apply And.intro|(intro h;try exact cDd)|(refine Exists.intro (k) ⟨by omega,_,hxm,?_⟩)|exact⟨Tryz.call158⟩|refine cpe hcp ?_|(refine Exists.intro (k+1,out++[x]) ⟨⟨by omega,by simp;omega,_,hnext,by rw [← hrun];simp⟩,by simp only;omega,?_⟩)|exact cSd|apply qa []|refine exr ?_|refine qh ?_)
    all_goals first|(simp [SV.evs,SV.ev];done)|(simp [SV.evs];omega)
   ·obtain⟨y,hy⟩:∃ y,its[k - 1]? = some y:=⟨_,List.getElem?_eq_getElem (by omega:k - 1<its.length)⟩
    have hym:(its.map z0)[k - 1]? = some (z0 y):=by rw [List.getElem?_map,hy];rfl
    have hpy:(prev=true↔y.kind≠1):=by
     rw [hpv]
     constructor
     ·rintro⟨z,_,h1,h2⟩
      rw [hy] at h1
      simp only [Option.some.injEq] at h1
      rw [h1]
      exact h2
     ·exact fun h=>⟨y,by omega,hy,h⟩
    by_cases hb:x.kind≠1∧y.kind≠1
    ·rw [if_pos ⟨hpy.2 hb.2,hb.1⟩] at hrun
     obtain⟨hb1,hb2⟩:=hb
     apply qd []
     repeat' (first|apply And.intro|(intro h;try exact cDd)|(refine Exists.intro (k) ⟨by omega,_,hxm,?_⟩)|(refine Exists.intro (k - 1) ⟨by omega,_,hym,?_⟩)|exact⟨Tryz.call158⟩|refine cpe hcp ?_|(refine Exists.intro (k+1,out++[⟨1,[10],[]⟩,x]) ⟨⟨by omega,by simp;omega,_,hnext,by rw [← hrun];simp⟩,by simp only;omega,?_⟩)|exact cSd|apply qa []|refine exr ?_|refine qh ?_)
     all_goals first|(simp [SV.evs,SV.ev];done)|(simp [SV.evs];omega)
    ·rw [if_neg (fun h=>hb ⟨h.2,hpy.1 h.1⟩)] at hrun
     apply qd []
     repeat' (first|apply And.intro|(intro h;try exact cDd)|(refine Exists.intro (k) ⟨by omega,_,hxm,?_⟩)|(refine Exists.intro (k - 1) ⟨by omega,_,hym,?_⟩)|exact⟨Tryz.call158⟩|refine cpe hcp ?_|(refine Exists.intro (k+1,out++[x]) ⟨⟨by omega,by simp;omega,_,hnext,by rw [← hrun];simp⟩,by simp only;omega,?_⟩)|exact absurd ⟨by assumption,by assumption⟩ hb|exact cSd|apply qa []|refine exr ?_|refine qh ?_)
     all_goals first|(simp [SV.evs,SV.ev];done)|(simp [SV.evs];omega)
  ·have hkn:k=its.length:=by omega
   subst hkn
   rw [List.drop_length,wr,List.append_nil] at hrun
   rw [← hrun]
   apply qd []
   repeat' (first|apply And.intro|(intro h;try exact cDd)|exact cSd|apply qa []|refine exr ?_|refine qh ?_)
theorem zb7 (its:List zm) (st:List AObj) (hl:its.length≤4000000) (hr:(vh its).length≤1000000000000):qm E 92 [ji its] st fun r st'=>r=Sv (vh its)∧st'=st:=by
 refine qy (qq _) (qp Tryz.func92 rfl (Nat.le_of_ble_eq_true rfl) ?_)
 have hml:(its.map z0).length=its.length:=by simp
 repeat' (first|(apply qfd;exact rfl)|apply ql|apply qv|apply qe|apply qf|apply qi|apply qg|(apply zr;(iterate 4 exact rfl)))
 refine xu its (fun pre s=>∃ q,(q = .v (.pointer none)∨q = .bx (st.length+0) 0 0)∧StE [(3,.bx (st.length+0) 0 0),(6,ji its),(7,Iv its.length),(8,Iv pre.length)] st [bldO 0 q (vh pre) (st.length+1),.tip (vh pre).length 1 5] s) ⟨_,.inl rfl,qbg ⟨rfl,rfl,congrArg (fun n:Nat=>Iv (n:Int)) hml,rfl,trivial⟩ rfl⟩ ?_ ?_
 ·rintro _ ⟨q,hq,t,ext,rfl⟩
  repeat' (first|apply ql|apply qe|apply qf|apply qg|(apply qr;(iterate 3 exact rfl))|(apply qc;exact rfl;apply vo;exact cAo)|apply jh|apply qt|(refine qk Tryz.call139 (qfe st _ _ _ _ 0 1 0 _ _ rfl rfl rfl) ?_))
  exact qn rfl (q9 rfl) ⟨rfl,wx _ _ _ _⟩
 ·rintro pre x rest _ hre ⟨q,hq,t,ext,rfl⟩
  have hlen:its.length=pre.length+(rest.length+1):=by rw [hre];simp
  have hget:(its.map z0)[pre.length]? = some (z0 x):=by rw [hre];simp
  have hrl:(vh pre).length+x.raw.length≤1000000000000:=by
   have e:x::rest=[x]++rest:=rfl
   rw [hre,qaz,e,qaz,qbj] at hr
   simp only [List.length_append] at hr
   omega
  repeat' (first|apply ql|apply qv|apply qe|apply qf|(apply qr;(iterate 3 exact rfl))|(apply qc;exact rfl;apply km;exact cAo)|(apply ja;exact rfl;exact rfl)|(apply zg;(iterate 3 exact rfl))|(apply zo;(iterate 3 exact rfl))|(apply jc;(iterate 5 exact rfl))|(apply zp;(iterate 11 exact rfl))|apply qs|(apply zw (n:=pre.length);(iterate 5 exact rfl);exact hget))
  refine qk Tryz.call136 (qgk st _ _ _ _ 0 1 0 _ _ _ rfl rfl ?_ ?_ rfl) ?_;(exact hq);(omega)
  repeat' (first|apply qe|apply qf|apply qi|(apply zk;exact rfl;exact rfl;exact zb (by omega) (by omega)))
  refine⟨_,.inr rfl,xf ⟨rfl,rfl,rfl,?_,trivial⟩ ?_⟩
  ·rw [xl pre x];rfl
  ·rw [qaz,qbj];rfl
theorem q89 (its:List zm) (st:List AObj) (hB:ItsB its) (hr:(vh (qaj its)).length≤1000000000000):qm E 52 [ji its] st fun r st'=>r=Sv (vh (qaj its))∧st'=st:=by
 refine ze [.a (ji its)] (qq _) Tryz.func52 rfl rfl (fun _=>rfl) rfl fun S0=>?_
 have h1:=fun st=>q8v its st hB
 have hal:=qlo false its
 have hln:=hB.len
 have h2:=fun st=>zb7 (qaj its) st (by unfold qaj;omega) hr
 apply qd []
 repeat' (first|apply And.intro|(intro h;try exact cDd)|exact⟨Tryz.call93⟩|refine cpe h1 ?_|exact⟨Tryz.call92⟩|refine cpe h2 ?_|exact cSd|apply qa []|refine exr ?_|refine qh ?_)
theorem q8h (l:q7) (st:List AObj) (hB:ItsB (ke l)):qm E 53 [vm l] st fun r st'=>r=ji (ke l)∧st'=st:=by
 refine ze [.a (vm l)] (yb _) Tryz.func53 rfl rfl (fun _=>rfl) rfl fun S0=>?_
 have hln:=hB.len
 have hil:(ke l).length=l.ents.length:=by simp [ke]
 apply qd []
 repeat' (first|apply And.intro|(intro h;try exact cDd)|exact cSd|apply qa []|refine exr ?_|refine qh ?_)
 refine zq (X:=Nat) (fun k=>⟨[(3,.tp 0),(12,.a (.sl 4 (l.ents.map entA) none)),(13,.i l.ents.length),(14,.i k)],[(0,some (.tip 3 137 (((ke l).take k).map z0)))],1⟩)
  (fun k=>k≤l.ents.length) (fun k=>l.ents.length - k) 0 (by omega) ?_ ?_
 ·skip
  repeat' (first|apply And.intro|(intro h;try exact cDd)|exact cSd|apply qa []|refine exr ?_|refine qh ?_)
  all_goals (simp;done)
 ·rintro k hk
  by_cases hkn:k<l.ents.length
  ·have hx:l.ents[k]? = some l.ents[k]:=List.getElem?_eq_getElem hkn
   have hxm:(l.ents.map entA)[k]? = some (entA l.ents[k]):=by rw [List.getElem?_map,hx];rfl
   have hxi:(ke l)[k]? = some l.ents[k].x:=by unfold ke;rw [List.getElem?_map,hx];rfl
   have hxf:=hB.fld l.ents[k].x (List.mem_of_getElem? hxi)
   have htk:(ke l).take (k+1)=(ke l).take k++[l.ents[k].x]:=by rw [List.take_add_one,hxi];rfl
   have htl:(((ke l).take k).map z0).length≤k:=by simp;omega
   generalize l.ents[k]=e at hx hxm hxi hxf htk
   have hcp:=fun st=>qgn e.x.fields st hxf
   apply qd []
   repeat' (first|apply And.intro|(intro h;try exact cDd)|(refine Exists.intro (k) ⟨by omega,_,hxm,?_⟩)|exact⟨Tryz.call80⟩|refine cpe hcp ?_|(refine Exists.intro (k+1) ⟨by omega,by omega,?_⟩)|exact cSd|apply qa []|refine exr ?_|refine qh ?_)
   all_goals first|(rw [htk];simp;done)|(simp [SV.evs];omega)
  ·have hkn:k=l.ents.length:=by omega
   subst hkn
   have e:(ke l).take l.ents.length=ke l:=List.take_of_length_le (by omega)
   rw [e]
   apply qd []
   repeat' (first|apply And.intro|(intro h;try exact cDd)|exact cSd|apply qa []|refine exr ?_|refine qh ?_)
theorem q0h (l:q7) (st:List AObj) (hB:ItsB (ke l)) (hr:(qm5 l).length≤1000000000000):qm E 16 [vm l] st fun r st'=>r=Sv (qm5 l)∧st'=st:=by
 refine ze [.a (vm l)] (qq _) Tryz.func16 rfl rfl (fun _=>rfl) rfl fun S0=>?_
 have h1:=fun st=>q8h l st hB
 have h2:=fun st=>q89 (ke l) st hB hr
 apply qd []
 repeat' (first|apply And.intro|(intro h;try exact cDd)|exact⟨Tryz.call53⟩|refine cpe h1 ?_|exact⟨Tryz.call52⟩|refine cpe h2 ?_|exact cSd|apply qa []|refine exr ?_|refine qh ?_)
theorem qhh (es:List EntV):∀ x∈es.map entA,x.cells.length=4:=fun x hx=>by
 obtain⟨e,_,rfl⟩:=List.mem_map.1 hx
 rfl
theorem qck (es:List EntV):(flat (es.map entA)).length=es.length * 4:=by
 rw [zt (qhh es),List.length_map]
theorem qfu (a b:List EntV):flat ((a++b).map entA)=flat (a.map entA)++flat (b.map entA):=by rw [List.map_append,wy]
theorem qc7 (A B xs:List AV) {off:Nat} (h:A.length=off):zu (A++B) off xs=A++xs++B.drop xs.length:=by
 unfold zu
 rw [← h,List.take_left,List.drop_append,List.drop_eq_nil_of_le (by omega)]
 simp
theorem qg0 {cs xs:List AV} {off:Nat} (h:off+xs.length≤cs.length):(zu cs off xs).length=cs.length:=by
 unfold zu
 simp
 omega
theorem zdw (es:List EntV) (i:Nat) (hi:i<es.length) (hl:es.length<1000000) (st:List AObj) (c:AV) (hc:OwnS st 4 139 (es.map entA) c):qm E 187 [c,Iv i,Iv ((i:Int)+1)] st fun r st'=>OwnR 4 139 ((es.take i++es.drop (i+1)).map entA) st c r st':=by
 have hml:(es.map entA).length=es.length:=by simp
 rcases hc with⟨h0,_⟩ | ⟨o,ver,cap,pad,rfl,e2,e3,e4,e5,e6⟩
 ·rw [h0] at hml
  simp at hml
  omega
 rw [hml] at e5 ⊢
 have hlt:=lt_of_getElem? e2
 have hfl:=qck es
 have hsplit:flat (es.map entA)++pad=flat ((es.take i).map entA)++(flat ((es.drop i).map entA)++pad):=by
  rw [← List.append_assoc,← qfu,List.take_append_drop]
 have ht4:(flat ((es.take i).map entA)).length=i * 4:=by rw [qck,List.length_take,Nat.min_eq_left (by omega)]
 have hd4:(flat ((es.drop (i+1)).map entA)).length=(es.length - (i+1)) * 4:=by rw [qck,List.length_drop]
 obtain⟨B1,hB1⟩:∃ B1,(flat ((es.drop i).map entA)++pad).drop (flat ((es.drop (i+1)).map entA)).length=B1:=⟨_,rfl⟩
 have hsp:zu (flat (es.map entA)++pad) (i * 4) (flat ((es.drop (i+1)).map entA))=flat ((es.take i++es.drop (i+1)).map entA)++B1:=by
  rw [hsplit,qc7 _ _ _ ht4,qfu,hB1]
 have hsl:(flat ((es.take i++es.drop (i+1)).map entA)++B1).length=(cap+1) * 4:=by
  rw [← hsp,qg0 (by rw [e3,hd4];omega),e3]
 have hel:(es.take i++es.drop (i+1)).length=es.length - 1:=by simp;omega
 -- what is appended
 obtain⟨q,hq⟩:∃ q,(if cap+1=i+1 then 0 else 0+(i+1) * 4)=q:=⟨_,rfl⟩
 have hqz:((flat (es.map entA)++pad).drop q).take ((es.length - (i+1)) * 4)=flat ((es.drop (i+1)).map entA)∧q+(es.length - (i+1)) * 4≤(flat (es.map entA)++pad).length:=by
  rw [e3]
  by_cases hci:cap+1=i+1
  ·have:es.length - (i+1)=0:=by omega
   rw [if_pos hci] at hq
   rw [this,← hq,List.drop_eq_nil_of_le (by omega:es.length≤i+1)]
   exact⟨by simp [flat],by omega⟩
  ·rw [if_neg hci] at hq
   rw [← hq]
   refine⟨?_,by omega⟩
   have e:flat (es.map entA)++pad=flat ((es.take (i+1)).map entA)++(flat ((es.drop (i+1)).map entA)++pad):=by
    rw [← List.append_assoc,← qfu,List.take_append_drop]
   have e':(flat ((es.take (i+1)).map entA)).length=0+(i+1) * 4:=by rw [qck,List.length_take,Nat.min_eq_left (by omega)];omega
   rw [e,← e',List.drop_left,← hd4,List.take_left]
 have hsrc:SrcA st 4 (.os o ver q (es.length - (i+1)) (cap+1 - (i+1))) (es.length - (i+1)) (es.length - (i+1)) (flat ((es.drop (i+1)).map entA)):=by
  have:=SrcA.os (st:=st) (sz:=4) o ver q (es.length - (i+1)) (cap+1 - (i+1)) (es.length - (i+1)) _ _ e2 hqz.2 (by rw [hqz.1];exact qbk fun _=>rfl)
  rw [hqz.1] at this
  exact this
 refine qp Tryz.func187 rfl (Nat.le_of_ble_eq_true rfl) ?_
 rw [List.append_nil]
 repeat' (first|(refine zv (sz:=4) (i:=i) (j:=i+1) (m:=es.length) rfl rfl rfl ?_ ?_ ?_ ?_ ?_ ?_ ?_;exact⟨_,rfl⟩;exact⟨_,rfl⟩;exact⟨_,rfl⟩;omega;omega;omega)|apply ql|apply qe|apply qf|apply qi|apply qg|(apply qr;(iterate 3 exact rfl))|(apply qc;exact rfl;apply vo;exact cAo)|(apply zr;(iterate 4 exact rfl))|apply qs)
 refine qr0 (fun s=>StA [(0,.os o ver 0 (i+(es.length - (i+1))) (cap+1)),(7,Iv es.length)] (st.set o (.cells ver 139 (flat ((es.take i++es.drop (i+1)).map entA)++B1))) [] s) ?_ ?_
 ·refine qif rfl rfl ?_
  (apply xp 0;exact rfl;kernel_rfl;kernel_rfl;kernel_rfl;exact rfl;exact yj)
  (apply xp 1;exact rfl;kernel_rfl;kernel_rfl;kernel_rfl;exact rfl;exact yj)
  (apply xp 3;exact rfl;kernel_rfl;kernel_rfl;kernel_rfl;exact rfl;exact yj)
  (apply xp 4;exact rfl;kernel_rfl;kernel_rfl;kernel_rfl;exact rfl;exact yj)
  refine wd [2,5] (by kernel_rfl) rfl ⟨⟨_,rfl,?_⟩,⟨_,rfl,?_⟩,trivial⟩
  ·(refine zv (sz:=4) (i:=0) (j:=i) (m:=cap+1) rfl rfl rfl ?_ ?_ ?_ ?_ ?_ ?_ ?_;exact rfl;exact⟨_,rfl⟩;exact rfl;omega;omega;omega)
   apply qf
   refine wd [5] (by kernel_rfl) rfl ⟨⟨_,rfl,?_⟩,trivial⟩
   (refine zv (sz:=4) (i:=i+1) (j:=es.length) (m:=cap+1) rfl rfl rfl ?_ ?_ ?_ ?_ ?_ ?_ ?_;exact⟨_,rfl⟩;exact⟨rfl,rfl⟩;exact rfl;omega;omega;omega;rw [hq])
   apply qf
   refine wd [6] (by kernel_rfl) rfl ⟨⟨_,rfl,?_⟩,trivial⟩
   (refine qlb (bytes:=56) (o:=o) (ver:=ver) (n:=i) (cap:=cap+1) (m:=es.length - (i+1)) (cs:=flat (es.map entA)++pad) rfl rfl e2 hsrc rfl rfl ⟨⟨_,_,rfl,rfl,rfl,rfl,rfl⟩⟩ (by omega) e3 ?_;rw [hsp])
   apply qf
   (apply xp 7;exact rfl;kernel_rfl;kernel_rfl;kernel_rfl;exact rfl;exact qsx)
   refine qb5 (by kernel_rfl) ?_
   exact jw ⟨rfl,rfl,trivial⟩
  ·(refine zv (sz:=4) (i:=i+1) (j:=es.length) (m:=cap+1) rfl rfl rfl ?_ ?_ ?_ ?_ ?_ ?_ ?_;exact⟨_,rfl⟩;exact⟨rfl,rfl⟩;exact rfl;omega;omega;omega;rw [hq])
   apply qf
   refine wd [2] (by kernel_rfl) rfl ⟨⟨_,rfl,?_⟩,trivial⟩
   (refine zv (sz:=4) (i:=0) (j:=i) (m:=cap+1) rfl rfl rfl ?_ ?_ ?_ ?_ ?_ ?_ ?_;exact rfl;exact⟨_,rfl⟩;exact rfl;omega;omega;omega)
   apply qf
   refine wd [6] (by kernel_rfl) rfl ⟨⟨_,rfl,?_⟩,trivial⟩
   (refine qlb (bytes:=56) (o:=o) (ver:=ver) (n:=i) (cap:=cap+1) (m:=es.length - (i+1)) (cs:=flat (es.map entA)++pad) rfl rfl e2 hsrc rfl rfl ⟨⟨_,_,rfl,rfl,rfl,rfl,rfl⟩⟩ (by omega) e3 ?_;rw [hsp])
   apply qf
   (apply xp 7;exact rfl;kernel_rfl;kernel_rfl;kernel_rfl;exact rfl;exact qsx)
   refine qb5 (by kernel_rfl) ?_
   exact jw ⟨rfl,rfl,trivial⟩
 ·rintro _ ⟨t,rfl⟩
  have hob:(st.set o (AObj.cells ver 139 (flat ((es.take i++es.drop (i+1)).map entA)++B1)))[o]? = some (.cells ver 139 (flat ((es.take i++es.drop (i+1)).map entA)++B1)):=jy e2
  have hqq:(if cap+1=i+(es.length - (i+1)) then 0 else 0+(i+(es.length - (i+1))) * 4)=(es.length - 1) * 4:=by
   rw [if_neg (by omega)]
   omega
  have hfe:(flat ((es.take i++es.drop (i+1)).map entA)).length=(es.length - 1) * 4:=by rw [qck,hel]
  repeat' (first|(refine zv (sz:=4) (i:=i+(es.length - (i+1))) (j:=es.length) (m:=cap+1) rfl rfl rfl ?_ ?_ ?_ ?_ ?_ ?_ ?_;exact⟨_,rfl⟩;exact⟨_,rfl⟩;exact rfl;omega;omega;omega;rw [hqq])|(refine qvi (sz:=4) (bytes:=56) rfl hob rfl ⟨⟨_,_,rfl,rfl,rfl,rfl,rfl⟩⟩ rfl (by rw [hsl];omega) fun zs hz=>?_)|apply ql|apply qe|apply qf|apply qi|apply qg|(apply zr;(iterate 4 exact rfl))|apply qt)
  refine qn rfl (q9 rfl) ?_
  show OwnR 4 139 _ st _ (.os o ver 0 (i+(es.length - (i+1))) (cap+1)) ((st.set o _).set o (.cells ver 139 (zu (flat ((es.take i++es.drop (i+1)).map entA)++B1) ((es.length - 1) * 4) zs)))
  rw [List.set_set,qc7 _ _ _ hfe,List.append_assoc]
  have hB1l:(es.length - 1) * 4+B1.length=(cap+1) * 4:=by rw [← hfe,← List.length_append];exact hsl
  have hzl:zs.length=4:=by rw [hz];omega
  refine⟨.inr ⟨o,ver,cap,zs++B1.drop zs.length,?_,jy e2,?_,qhh _,?_,e6⟩,by simp,fun j hj hne=>List.getElem?_set_ne fun e=>hne (by rw [e];rfl),fun o' ho'=>.inr ho'⟩
  ·rw [List.length_map,hel]
   congr 1
   omega
  ·rw [List.length_append,List.length_append,List.length_drop,hfe,hzl]
   omega
  ·rw [List.length_map,hel]
   omega
theorem zb3 (e:EntV) (st:List AObj) (c:AV) (hnr:qc9 c):qm E 188 [c,Iv 0,.sl 4 [entA e] none] st fun r st'=>OwnR 4 139 [entA e] st c r st':=by
 refine qp Tryz.func188 rfl (Nat.le_of_ble_eq_true rfl) ?_
 rw [List.append_nil]
 repeat' (first|(apply zr (n:=1);(iterate 4 exact rfl))|(refine qvk (sz:=4) rfl hnr.val rfl rfl ?_ ?_;exact⟨_,rfl⟩)|(apply zr;exact rfl;exact hnr.len;exact rfl;exact rfl)|(refine qha (sz:=4) (ys:=[entA e]) (bytes:=56) hnr.val (fun _ _ h=>h) rfl rfl ⟨⟨_,_,rfl,rfl,rfl,rfl,rfl⟩⟩ rfl (by simp) (by simp [maxLen]) (by simp) fun cap pad q1 q2 q3 q4=>?_)|apply ql|apply qe|apply qf|apply qi|apply qg|(apply qr;(iterate 3 exact rfl))|(apply qc;exact rfl;apply km;exact cAo)|(apply qc;exact rfl;apply vo;exact cAo)|apply qs|apply qt)
 refine qn rfl (q9 rfl) ?_
 show OwnR 4 139 _ st c (.os st.length 0 0 _ (cap+1)) (st++[_])
 refine⟨.inr ⟨_,0,cap,pad,rfl,xd,q1,q2,q3,q4⟩,qe7,fun j hj _=>List.getElem?_append_left hj,fun o ho=>?_⟩
 simp only [zn,Option.some.injEq] at ho
 left
 omega
theorem zb4 (es:List EntV) (e:EntV) (hl:es.length<1000000) (st:List AObj) (o ver cap:Nat) (pad:List AV) (e2:st[o]? = some (.cells ver 139 (flat (es.map entA)++pad))) (e3:(flat (es.map entA)++pad).length=(cap+1) * 4) (e5:es.length≤cap+1) (e6:cap+1≤maxLen) :
  qm E 188 [.os o ver 0 es.length (cap+1),Iv es.length,.sl 4 [entA e] none] st fun r st'=>OwnR 4 139 (es.map entA++[entA e]) st (.os o ver 0 es.length (cap+1)) r st':=by
 have hml:(es.map entA).length=es.length:=by simp
 have hlt:=lt_of_getElem? e2
 have hV0:Vec 4 139 o (es.map entA) (.os o ver 0 es.length (cap+1)) (.cells ver 139 (flat (es.map entA)++pad)):=by
  have:=Vec.os (o:=o) (T:=139) (xs:=es.map entA) ver (cap+1) pad e3 (qhh _) (by omega) e6
  rw [hml] at this
  exact this
 refine qp Tryz.func188 rfl (Nat.le_of_ble_eq_true rfl) ?_
 rw [List.append_nil]
 repeat' (first|(apply zr (n:=1);(iterate 4 exact rfl))|(refine zv (sz:=4) (i:=es.length) (j:=es.length) (m:=cap+1) rfl rfl rfl ?_ ?_ ?_ ?_ ?_ ?_ ?_;exact⟨_,rfl⟩;exact⟨rfl,rfl⟩;exact rfl;omega;omega;omega)|(refine qub (sz:=4) (bytes:=56) (o:=o) (xs:=es.map entA) (ys:=[entA e]) rfl (fun _ _ h=>h) hV0 e2 rfl rfl ⟨⟨_,_,rfl,rfl,rfl,rfl,rfl⟩⟩ rfl (by simp [maxLen];omega) (by simp;omega) fun a' ob' hV=>?_)|apply ql|apply qe|apply qf|apply qi|apply qg|(apply qr;(iterate 3 exact rfl))|(apply qc;exact rfl;apply km;exact cAo)|(apply qc;exact rfl;apply vo;exact cAo)|(apply zr;(iterate 4 exact rfl))|apply qs|apply qt)
 rcases q6o hV with⟨q,_,_⟩ | ⟨ver',cap',pad',rfl,rfl,q1,q2,q3,q4⟩
 ·simp at q
 ·obtain⟨cap',rfl⟩:∃ c,cap'=c+1:=⟨cap' - 1,by simp at q3;omega⟩
  refine qn rfl (q9 rfl) ?_
  show OwnR 4 139 _ st _ (.os o ver' 0 _ (cap'+1)) (st.set o _)
  exact⟨.inr ⟨o,ver',cap',pad',rfl,jy e2,q1,q2,q3,q4⟩,by simp,fun j hj hne=>List.getElem?_set_ne fun e=>hne (by rw [e];rfl),fun o' ho'=>.inr ho'⟩
theorem qxf (w:World) (a b:Addr) (la ca lb cb:Nat) (tA tB:TypeId) (kA kB:Nat) (h1:a.block≠b.block) (h2:w.shape? a.block=some (tA,kA)) (h3:w.shape? b.block=some (tB,kB)) (h4:kA≠0) (h5:w.frozen? b=false) (h6:w.frozen? { block:=b.block,off:=kB }=false) :
  (callFunc 228 #[.slice (some a) la ca,.slice (some b) lb cb]).run E.P w = .ok (.value (.bool false)) w:=by
 have hz:∀ w,(Go.sizeOf 139).run E.P w = .ok 4 w:=fun w=>(kq (agg:=true) rfl w).1
 rw [run_callFunc_extern (P:=E.P) Tryz.func228 (by kernel_rfl) (by kernel_rfl) (by kernel_rfl) (e:=Extern.SlicesOverlaps.overlaps #[110,110] #[4]) (by kernel_rfl),
  qo0 w 110 4 139 rfl 4 hz a b la ca lb cb h1 tA tB kA kB h2 h3 h4 h5 h6]
 rfl
structure InsB (es:List EntV) (e:EntV) (i cap:Nat) (pad:List AV):Prop where
 t4:(flat ((es.take i).map entA)).length=i * 4
 d4:(flat ((es.drop i).map entA)).length=(es.length - i) * 4
 split:flat (es.map entA)++pad=flat ((es.take i).map entA)++(flat ((es.drop i).map entA)++pad)
 take:(flat (es.map entA)++pad).take (i * 4)=flat ((es.take i).map entA)
 drop:((flat (es.map entA)++pad).drop (0+i * 4)).take ((es.length - i) * 4)=flat ((es.drop i).map entA)
 new:flat ((es.take i++e::es.drop i).map entA)=flat ((es.take i).map entA)++flat [entA e]++flat ((es.drop i).map entA)
 nl:(es.take i++e::es.drop i).length=es.length+1
 src:∀ o ver L c' (S:List AObj),(flat (es.map entA)++pad).length=(cap+1) * 4→es.length≤cap+1→S[o]? = some (.cells ver 139 (flat (es.map entA)++pad))→SrcA S 4 (.os o ver (0+i * 4) L c') L (es.length - i) (flat ((es.drop i).map entA))
theorem insB (es:List EntV) (e:EntV) (i cap:Nat) (pad:List AV) (hi:i<es.length):InsB es e i cap pad:=by
 have ht4:(flat ((es.take i).map entA)).length=i * 4:=by rw [qck,List.length_take,Nat.min_eq_left (by omega)]
 have hd4:(flat ((es.drop i).map entA)).length=(es.length - i) * 4:=by rw [qck,List.length_drop]
 have hsplit:flat (es.map entA)++pad=flat ((es.take i).map entA)++(flat ((es.drop i).map entA)++pad):=by
  rw [← List.append_assoc,← qfu,List.take_append_drop]
 have hdrop:((flat (es.map entA)++pad).drop (0+i * 4)).take ((es.length - i) * 4)=flat ((es.drop i).map entA):=by rw [Nat.zero_add,hsplit,← ht4,List.drop_left,← hd4,List.take_left]
 refine⟨ht4,hd4,hsplit,by rw [hsplit,← ht4,List.take_left],hdrop,?_,by simp;omega,fun o ver L c' S e3 e5 hS=>?_⟩
 ·rw [qfu]
  simp [flat]
 ·have:=SrcA.os (st:=S) (sz:=4) o ver (0+i * 4) L c' (es.length - i) _ _ hS (by rw [e3];omega) (by rw [hdrop];exact qbk fun _=>rfl)
  rw [hdrop] at this
  exact this
set_option maxHeartbeats 4000000 in
theorem zb6 (es:List EntV) (e:EntV) (i:Nat) (hi:i<es.length) (hl:es.length<1000000) (st:List AObj) (o ver cap:Nat) (pad:List AV) (e2:st[o]? = some (.cells ver 139 (flat (es.map entA)++pad))) (e3:(flat (es.map entA)++pad).length=(cap+1) * 4) (e5:es.length+1≤cap+1) (e6:cap+1≤maxLen) :
  qm E 188 [.os o ver 0 es.length (cap+1),Iv i,.sl 4 [entA e] none] st fun r st'=>OwnR 4 139 ((es.take i++e::es.drop i).map entA) st (.os o ver 0 es.length (cap+1)) r st':=by
 have hI:=insB es e i cap pad hi
 have hlt:=lt_of_getElem? e2
 have hfl1:(flat [entA e]).length=4:=rfl
 have ht4:=hI.t4
 have hd4:=hI.d4
 have hi1:(if cap+1=i then 0 else 0+i * 4)=0+i * 4:=if_neg (by omega)
 have hi2:(if cap+1=i+1 then 0 else 0+(i+1) * 4)=(i+1) * 4:=by rw [if_neg (by omega)];omega
 obtain⟨B1,hB1⟩:∃ B1,(flat ((es.drop i).map entA)++pad).drop 4=B1:=⟨_,rfl⟩
 obtain⟨A1,hA1⟩:∃ A1,(flat ((es.drop i).map entA)++pad).take 4=A1:=⟨_,rfl⟩
 have hA1l:A1.length=4:=by
  rw [← hA1,List.length_take,List.length_append,hd4]
  omega
 obtain⟨X1,hX1⟩:∃ X1,flat ((es.take i).map entA)++A1++flat ((es.drop i).map entA)++B1.drop ((es.length - i) * 4)=X1:=⟨_,rfl⟩
 have hsp1:zu (flat (es.map entA)++pad) ((i+1) * 4) (flat ((es.drop i).map entA))=X1:=by
  have e1:flat (es.map entA)++pad=(flat ((es.take i).map entA)++A1)++B1:=by rw [hI.split,List.append_assoc,← hA1,← hB1,List.take_append_drop]
  rw [e1,qc7 _ _ _ (by rw [List.length_append,ht4,hA1l];omega),hd4,hX1]
 have hsp2:zu X1 (0+i * 4) (flat [entA e])=flat ((es.take i++e::es.drop i).map entA)++B1.drop ((es.length - i) * 4):=by
  have e1:X1=flat ((es.take i).map entA)++(A1++(flat ((es.drop i).map entA)++B1.drop ((es.length - i) * 4))):=by rw [← hX1];simp
  rw [e1,qc7 _ _ _ (by rw [ht4];omega),hfl1,List.drop_append_of_le_length (by omega),List.drop_eq_nil_of_le (by omega:A1.length≤4),hI.new]
  simp
 have hsl1:X1.length=(cap+1) * 4:=by
  rw [← hsp1,qg0 (by rw [e3,hd4];omega),e3]
 have hsl2:(flat ((es.take i++e::es.drop i).map entA)++B1.drop ((es.length - i) * 4)).length=(cap+1) * 4:=by
  rw [← hsp2,qg0 (by rw [hsl1,hfl1];omega),hsl1]
 have hsrc:=hI.src o ver (es.length+1 - i) (cap+1 - i) st e3 (by omega) e2
 have hnl:=hI.nl
 generalize hXn:flat ((es.take i++e::es.drop i).map entA)++B1.drop ((es.length - i) * 4)=Xn at hsp2 hsl2
 clear hX1 hB1 hA1 hI ht4 hd4
 generalize hdz:flat ((es.drop i).map entA)=dz at hsp1 hsrc
 refine qp Tryz.func188 rfl (Nat.le_of_ble_eq_true rfl) ?_
 rw [List.append_nil]
 generalize flat (es.map entA)++pad=X0 at e2 e3 hsp1
 repeat' (first|apply ql|apply qe|apply qf|apply qi|apply qg)
 refine zv (o:=o) (ver:=ver) (off:=0) (len:=es.length) (cap:=cap+1) (sz:=4) (i:=i) (j:=es.length) (m:=cap+1) rfl rfl rfl ?_ ?_ ?_ (by omega) (by omega) (by omega) ?_
 ·exact⟨_,rfl⟩
 ·exact⟨rfl,rfl⟩
 ·exact rfl
 repeat' (first|(apply zr (n:=1);(iterate 4 exact rfl))|apply ql|apply qe|apply qf|apply qi|apply qg|(apply qr;(iterate 3 exact rfl))|(apply qc;exact rfl;apply vo;exact cAo)|(apply zr;(iterate 4 exact rfl))|(apply zk;exact rfl;exact rfl;exact zb (by omega) (by omega))|apply qs)
 refine qpi rfl rfl rfl ?_
 repeat' (first|apply ql|apply qe|apply qf|apply qi|(apply qr;(iterate 3 exact rfl))|(apply qc;exact rfl;apply vo;exact cAo)|(apply zk;exact rfl;exact rfl;exact zb (by omega) (by omega))|apply qs)
 refine zv (o:=o) (ver:=ver) (off:=0) (len:=es.length) (cap:=cap+1) (sz:=4) (i:=0) (j:=es.length+1) (m:=cap+1) rfl rfl rfl ?_ ?_ ?_ (by omega) (by omega) (by omega) ?_
 ·exact rfl
 ·exact⟨_,rfl⟩
 ·exact rfl
 repeat' (first|apply ql|apply qe|apply qf|apply qi|apply qg|(apply zk;exact rfl;exact rfl;exact zb (by omega) (by omega)))
 refine zv (o:=o) (ver:=ver) (off:=0) (len:=es.length+1) (cap:=cap+1) (sz:=4) (i:=i+1) (j:=es.length+1) (m:=cap+1) rfl rfl rfl ?_ ?_ ?_ (by omega) (by omega) (by omega) ?_
 ·exact⟨_,rfl⟩
 ·exact⟨rfl,rfl⟩
 ·exact rfl
 rw [hi2]
 repeat' (first|(apply q7r;first|apply ql|apply qv|apply qe|(apply qc;exact rfl;apply km;exact cAo)|(apply qc;exact rfl;apply vo;exact cAo)|(apply qc;exact rfl;apply qii;exact cRa)|(apply qc;exact rfl;apply qmt;exact cRa)|(apply qc;exact rfl;apply cd_n <;> intro h)|(apply qc;exact rfl;apply cd_t;exact cRa)|(apply qc;exact rfl;apply cd_f;exact cRa)|(apply qc;exact rfl;apply cd_d <;> intro h)|(apply qc;exact rfl;apply cd_s <;> intro h)|apply qs|apply jh|apply qt)|(apply q1u;first|(apply qx;(iterate 4 exact rfl))|(apply qdn;(iterate 4 exact rfl)))|(apply za0;first|(apply qbs;exact cAo)|(apply yn;exact cAo)|(apply ye;exact cAo)|(apply qd0;exact cAo)|(apply qti;exact cRa)|(apply qaq;exact cRa)|(apply qcw;exact cRa)|(apply qqj;exact cRa)|(apply qka <;> intro h)|(apply y3;exact cRa)|(apply qe5;exact cRa)|(apply qar;exact cRa)|(apply yf;exact cRa)|(apply wg <;> intro h)|(apply qe6 <;> intro h))|(apply zaz;first|apply qfq|(apply qzx;(iterate 4 exact rfl))|(apply q3q;exact rfl;exact rfl;exact zb (by omega) (by omega))|(apply qzz;(iterate 4 exact rfl);exact cAs;exact cAs)|(apply qng;(iterate 5 exact rfl))|(apply qlq;exact rfl;exact rfl;exact cOs)|(apply qgi;(iterate 3 exact rfl))|(apply qnf;(iterate 5 exact rfl))|(apply qps;(iterate 4 exact rfl))|(apply qpr;(iterate 3 exact rfl))|(apply q3o;(iterate 3 exact rfl);exact cAs)|(apply qzy;exact rfl;exact rfl)|(apply qvn;exact rfl;exact rfl)|(apply qvo;(iterate 3 exact rfl);omega)|(apply qsv;(iterate 3 exact rfl))|apply qdw|apply qlp|(apply qvm;exact rfl;exact rfl;exact zb (by omega) (by omega))|(apply zaf;(iterate 3 exact rfl))|(apply qrw;(iterate 3 exact rfl);exact cAs)|(apply qrv;(iterate 3 exact rfl);exact cAs)|(apply qpq;exact rfl;exact rfl))|(apply q1t;first|(apply qr;(iterate 3 exact rfl))|(apply jo;(iterate 3 exact rfl))|(apply jt;exact rfl;exact rfl;exact cOs)|(apply zk;exact rfl;exact rfl;exact zb (by omega) (by omega))|(apply qch;exact rfl;exact rfl;exact zb (by omega) (by omega))|(apply vz;exact rfl;exact rfl)|(apply vb;exact rfl;exact rfl)|(apply y8;exact rfl;exact rfl)|(apply qdh;exact rfl;exact rfl)|(apply qaa;(iterate 3 exact rfl))|(apply qf6;(iterate 3 exact rfl))|(apply qgh;exact rfl;exact rfl;(first|exact kj _|exact rfl);first|exact kj _|exact rfl)|(apply qjz;exact rfl;exact rfl;(first|exact kj _|exact rfl);first|exact kj _|exact rfl)|(apply q3m;exact rfl;exact rfl;(first|exact kj _|exact rfl);first|exact kj _|exact rfl)|(apply qed;(iterate 3 exact rfl))|(apply qgg;(iterate 3 exact rfl)))|(apply q4g;first|(apply zo;(iterate 3 exact rfl))|(apply qlc;(iterate 5 exact rfl))|(apply jc;(iterate 5 exact rfl)))|(apply q4h;first|(apply qpm;exact rfl)|(apply z6;exact rfl)|(apply qhc;exact rfl))|(apply q1v;first|(apply qid;(iterate 3 exact rfl);exact cAs)|(apply qib;(iterate 3 exact rfl);exact cAs)|(apply qln;(iterate 4 exact rfl);exact cAs;exact cAs)|(apply qex;(iterate 4 exact rfl);(first|assumption|omega|exact Nat.succ_le_succ (Nat.zero_le _)|(simp;omega));exact rfl))|(apply q4f;first|(apply jp;(iterate 3 exact rfl))|(apply zr;(iterate 4 exact rfl)))|(apply qr4;first|(apply zg;(iterate 3 exact rfl))|(apply xo;(iterate 4 exact rfl)))|(apply q1w;first|(apply yx;(iterate 11 exact rfl))|(apply zp;(iterate 11 exact rfl)))|(apply q7s;first|apply qf|apply qi|apply qg|(apply za;exact rfl;exact rfl)|(apply qo;exact rfl;apply y6;exact cAo)|(apply qo;exact rfl;apply qay;exact cAo)|(apply qo;exact rfl;apply qkt;exact cRa)|(apply qo;exact rfl;apply qfl;exact cRa)|(apply qo;exact rfl;apply pk_t;exact cRa)|(apply qo;exact rfl;apply pk_f;exact cRa)|(apply jq;exact rfl;exact rfl)|apply qf5|(apply ja;exact rfl;exact rfl)|(apply qa5;(iterate 4 exact rfl))|(apply qj0;(iterate 3 exact rfl))|(apply ym;(iterate 3 exact rfl);exact cAs)|(apply vd;(iterate 3 exact rfl))|(apply j7;(iterate 9 exact rfl))|(apply v6;exact rfl;exact rfl)|(apply qi3;(iterate 4 exact rfl);(first|assumption|omega|decide);exact rfl)|(apply qcb;(iterate 4 exact rfl);first|assumption|omega|decide)))
 refine qud (xs:=[entA e]) (o:=o) (ver:=ver) rfl rfl e2 (by simp [flat,AV.cells]) qxf ?_
 repeat' (first|apply ql|apply qf|(apply z6;exact rfl)|(apply qc;exact rfl;apply qii;exact cRa))
 refine qdx [(0,.os o ver 0 (es.length+1) (cap+1)),(1,Iv i),(2,.sl 4 [entA e] none),(7,Iv 1)] st [] ⟨rfl,rfl,rfl,rfl,trivial⟩ rfl rfl fun t=>?_
 refine qr0 (fun s=>StA [(0,.os o ver 0 (es.length+1) (cap+1)),(1,Iv i),(2,.sl 4 [entA e] none)] (st.set o (.cells ver 139 X1)) [] s) ?_ ?_
 ·refine qif rfl rfl ?_
  (apply xp 0;exact rfl;kernel_rfl;kernel_rfl;kernel_rfl;exact rfl;exact yj)
  (apply xp 1;exact rfl;kernel_rfl;kernel_rfl;kernel_rfl;exact rfl;exact yj)
  (apply xp 2;exact rfl;kernel_rfl;kernel_rfl;kernel_rfl;exact rfl;exact yj)
  (apply xp 5;exact rfl;kernel_rfl;kernel_rfl;kernel_rfl;exact rfl;exact yj)
  (apply xp 6;exact rfl;kernel_rfl;kernel_rfl;kernel_rfl;exact rfl;exact yj)
  refine wd [3,7] (by kernel_rfl) rfl ⟨⟨_,rfl,?_⟩,⟨_,rfl,?_⟩,trivial⟩
  ·(apply zk;exact rfl;exact rfl;exact zb (by omega) (by omega))
   apply qf
   refine wd [4,7] (by kernel_rfl) rfl ⟨⟨_,rfl,?_⟩,⟨_,rfl,?_⟩,trivial⟩
   ·(refine zv (o:=o) (ver:=ver) (off:=0) (len:=es.length+1) (cap:=cap+1) (sz:=4) (i:=i+1) (j:=es.length+1) (m:=cap+1) rfl rfl rfl ?_ ?_ ?_ (by omega) (by omega) (by omega) ?_;exact⟨_,rfl⟩;exact⟨rfl,rfl⟩;exact rfl;rw [hi2])
    apply qf
    refine wd [7] (by kernel_rfl) rfl ⟨⟨_,rfl,?_⟩,trivial⟩
    (refine zv (o:=o) (ver:=ver) (off:=0) (len:=es.length+1) (cap:=cap+1) (sz:=4) (i:=i) (j:=es.length+1) (m:=cap+1) rfl rfl rfl ?_ ?_ ?_ (by omega) (by omega) (by omega) ?_;exact⟨_,rfl⟩;exact⟨rfl,rfl⟩;exact rfl;rw [hi1])
    apply qf
    refine wd [8] (by kernel_rfl) rfl ⟨⟨_,rfl,?_⟩,trivial⟩
    (refine yu (o:=o) (ver:=ver) (off:=(i+1) * 4) (sz:=4) (bytes:=56) (m:=es.length - i) rfl rfl e2 hsrc ?_ rfl ⟨⟨_,_,rfl,rfl,rfl,rfl,rfl⟩⟩ ?_ ?_;(show min _ _=_;omega);(rw [e3];omega);rw [hsp1])
    apply qf
    refine qb5 (by kernel_rfl) ?_
    exact jw ⟨rfl,rfl,rfl,trivial⟩
   ·(refine zv (o:=o) (ver:=ver) (off:=0) (len:=es.length+1) (cap:=cap+1) (sz:=4) (i:=i) (j:=es.length+1) (m:=cap+1) rfl rfl rfl ?_ ?_ ?_ (by omega) (by omega) (by omega) ?_;exact⟨_,rfl⟩;exact⟨rfl,rfl⟩;exact rfl;rw [hi1])
    apply qf
    refine wd [4] (by kernel_rfl) rfl ⟨⟨_,rfl,?_⟩,trivial⟩
    (refine zv (o:=o) (ver:=ver) (off:=0) (len:=es.length+1) (cap:=cap+1) (sz:=4) (i:=i+1) (j:=es.length+1) (m:=cap+1) rfl rfl rfl ?_ ?_ ?_ (by omega) (by omega) (by omega) ?_;exact⟨_,rfl⟩;exact⟨rfl,rfl⟩;exact rfl;rw [hi2])
    apply qf
    refine wd [8] (by kernel_rfl) rfl ⟨⟨_,rfl,?_⟩,trivial⟩
    (refine yu (o:=o) (ver:=ver) (off:=(i+1) * 4) (sz:=4) (bytes:=56) (m:=es.length - i) rfl rfl e2 hsrc ?_ rfl ⟨⟨_,_,rfl,rfl,rfl,rfl,rfl⟩⟩ ?_ ?_;(show min _ _=_;omega);(rw [e3];omega);rw [hsp1])
    apply qf
    refine qb5 (by kernel_rfl) ?_
    exact jw ⟨rfl,rfl,rfl,trivial⟩
  ·(refine zv (o:=o) (ver:=ver) (off:=0) (len:=es.length+1) (cap:=cap+1) (sz:=4) (i:=i) (j:=es.length+1) (m:=cap+1) rfl rfl rfl ?_ ?_ ?_ (by omega) (by omega) (by omega) ?_;exact⟨_,rfl⟩;exact⟨rfl,rfl⟩;exact rfl;rw [hi1])
   apply qf
   refine wd [3] (by kernel_rfl) rfl ⟨⟨_,rfl,?_⟩,trivial⟩
   (apply zk;exact rfl;exact rfl;exact zb (by omega) (by omega))
   apply qf
   refine wd [4] (by kernel_rfl) rfl ⟨⟨_,rfl,?_⟩,trivial⟩
   (refine zv (o:=o) (ver:=ver) (off:=0) (len:=es.length+1) (cap:=cap+1) (sz:=4) (i:=i+1) (j:=es.length+1) (m:=cap+1) rfl rfl rfl ?_ ?_ ?_ (by omega) (by omega) (by omega) ?_;exact⟨_,rfl⟩;exact⟨rfl,rfl⟩;exact rfl;rw [hi2])
   apply qf
   refine wd [8] (by kernel_rfl) rfl ⟨⟨_,rfl,?_⟩,trivial⟩
   (refine yu (o:=o) (ver:=ver) (off:=(i+1) * 4) (sz:=4) (bytes:=56) (m:=es.length - i) rfl rfl e2 hsrc ?_ rfl ⟨⟨_,_,rfl,rfl,rfl,rfl,rfl⟩⟩ ?_ ?_;(show min _ _=_;omega);(rw [e3];omega);rw [hsp1])
   apply qf
   refine qb5 (by kernel_rfl) ?_
   exact jw ⟨rfl,rfl,rfl,trivial⟩
 ·rintro _ ⟨t,rfl⟩
  have hob:(st.set o (AObj.cells ver 139 X1))[o]? = some (.cells ver 139 X1):=jy e2
  repeat' (first|apply ql|apply qe|apply qi)
  refine zv (o:=o) (ver:=ver) (off:=0) (len:=es.length+1) (cap:=cap+1) (sz:=4) (i:=i) (j:=es.length+1) (m:=cap+1) rfl rfl rfl ?_ ?_ ?_ (by omega) (by omega) (by omega) ?_
  ·exact⟨_,rfl⟩
  ·exact⟨rfl,rfl⟩
  ·exact rfl
  rw [hi1]
  repeat' (first|apply qi)
  refine yu (o:=o) (ver:=ver) (off:=0+i * 4) (sz:=4) (bytes:=56) (L:=1) (m:=1) rfl rfl hob (.sl [entA e] none rfl) ?_ rfl ⟨⟨_,_,rfl,rfl,rfl,rfl,rfl⟩⟩ ?_ ?_
  ·show min _ _=_
   omega
  ·rw [hsl1]
   omega
  rw [hsp2]
  repeat' (first|apply ql|apply qe|apply qf|apply qi|apply qg|apply qt)
  refine qn rfl (q9 rfl) ?_
  show OwnR 4 139 _ st _ (.os o ver 0 (es.length+1) (cap+1)) ((st.set o _).set o (.cells ver 139 Xn))
  rw [List.set_set,← hXn]
  rw [← hXn] at hsl2
  exact⟨.inr ⟨o,ver,cap,_,by rw [List.length_map,hnl],jy e2,hsl2,qhh _,by rw [List.length_map,hnl];omega,e6⟩,by simp,fun j hj hne=>List.getElem?_set_ne fun e=>hne (by rw [e];rfl),fun o' ho'=>.inr ho'⟩
set_option maxHeartbeats 4000000 in
theorem zb5 (es:List EntV) (e:EntV) (i:Nat) (hi:i<es.length) (hl:es.length<1000000) (st:List AObj) (o ver cap:Nat) (pad:List AV) (e2:st[o]? = some (.cells ver 139 (flat (es.map entA)++pad))) (e3:(flat (es.map entA)++pad).length=(cap+1) * 4) (e5:es.length=cap+1) (e6:cap+1≤maxLen) :
  qm E 188 [.os o ver 0 es.length (cap+1),Iv i,.sl 4 [entA e] none] st fun r st'=>OwnR 4 139 ((es.take i++e::es.drop i).map entA) st (.os o ver 0 es.length (cap+1)) r st':=by
 have hI:=insB es e i cap pad hi
 have hlt:=lt_of_getElem? e2
 have hfl1:(flat [entA e]).length=4:=rfl
 have ht4:=hI.t4
 have hd4:=hI.d4
 have htake:=hI.take
 have hi1:(if cap+1=i then 0 else 0+i * 4)=0+i * 4:=if_neg (by omega)
 have hsrc:=fun S=>hI.src o ver (es.length - i) (cap+1 - i) S e3 (by omega)
 have hnl:=hI.nl
 have hnew:=hI.new
 have hk9:Iv ((es.length:Int)+1 - i)=Iv ((es.length+1 - i:Nat):Int):=congrArg (fun z:Int=>Iv z) (by omega)
 have hkk:i+(es.length+1 - i)=es.length+1:=by omega
 generalize flat ((es.drop i).map entA)=dz at hsrc hd4 hnew
 refine qp Tryz.func188 rfl (Nat.le_of_ble_eq_true rfl) ?_
 rw [List.append_nil]
 generalize flat (es.map entA)++pad=X0 at e2 e3 htake hsrc
 repeat' (first|apply ql|apply qe|apply qf|apply qi|apply qg)
 refine zv (o:=o) (ver:=ver) (off:=0) (len:=es.length) (cap:=cap+1) (sz:=4) (i:=i) (j:=es.length) (m:=cap+1) rfl rfl rfl ?_ ?_ ?_ (by omega) (by omega) (by omega) ?_
 ·exact⟨_,rfl⟩
 ·exact⟨rfl,rfl⟩
 ·exact rfl
 repeat' (first|(apply zr (n:=1);(iterate 4 exact rfl))|apply ql|apply qe|apply qf|apply qi|apply qg|(apply qr;(iterate 3 exact rfl))|(apply qc;exact rfl;apply vo;exact cAo)|(apply zr;(iterate 4 exact rfl))|(apply zk;exact rfl;exact rfl;exact zb (by omega) (by omega))|apply qs)
 refine qpi rfl rfl rfl ?_
 refine qpn [(0,.os o ver 0 es.length (cap+1)),(1,Iv i),(2,.sl 4 [entA e] none),(7,Iv 1),(8,Iv es.length),(28,Iv ((es.length:Int)+1)),(30,Iv ((cap+1:Nat):Int))] st [] ⟨rfl,rfl,rfl,rfl,rfl,rfl,rfl,trivial⟩ rfl rfl fun t=>?_
 repeat' (first|apply ql|apply qe|apply qf|apply qi|(apply qr;(iterate 3 exact rfl))|(apply qc;exact rfl;apply km;exact cAo))
 refine zv (o:=o) (ver:=ver) (off:=0) (len:=es.length) (cap:=cap+1) (sz:=4) (i:=0) (j:=i) (m:=cap+1) rfl rfl rfl ?_ ?_ ?_ (by omega) (by omega) (by omega) ?_
 ·exact rfl
 ·exact⟨_,rfl⟩
 ·exact rfl
 repeat' (first|apply qi|(apply zk;exact rfl;exact rfl;exact zb (by omega) (by omega))|(apply qch;exact rfl;exact rfl;exact zb (by omega) (by omega)))
 refine qn7 (sz:=4) (bytes:=56) (o:=o) (ver:=ver) (n:=i) (cap:=cap+1) (k:=es.length+1 - i) (cs:=X0) rfl hk9 e2 rfl rfl ⟨⟨_,_,rfl,rfl,rfl,rfl,rfl⟩⟩ (by omega) (by omega) (by omega) (by rw [e3];omega) (by simp only [maxLen];omega) (by omega) fun cap' zs z1 z2 z3=>?_
 rw [hkk,htake]
 refine qpn [(0,.os o ver 0 es.length (cap+1)),(1,Iv i),(2,.sl 4 [entA e] none),(7,Iv 1),(40,.os st.length 0 0 (es.length+1) cap')] (st++[.cells 0 139 (flat ((es.take i).map entA)++zs)]) [] ⟨rfl,rfl,rfl,rfl,rfl,trivial⟩ rfl rfl fun t=>?_
 obtain⟨cap',rfl⟩:∃ c,cap'=c+1:=⟨cap' - 1,by omega⟩
 have hi3:(if cap'+1=i then 0 else 0+i * 4)=0+i * 4:=if_neg (by omega)
 have hi4:(if cap'+1=i+1 then 0 else 0+(i+1) * 4)=(i+1) * 4:=by rw [if_neg (by omega)];omega
 have hsp1:zu (flat ((es.take i).map entA)++zs) (0+i * 4) (flat [entA e])=(flat ((es.take i).map entA)++flat [entA e])++zs.drop 4:=qc7 _ _ _ (by rw [ht4];omega)
 have hsp2:zu ((flat ((es.take i).map entA)++flat [entA e])++zs.drop 4) ((i+1) * 4) dz=flat ((es.take i++e::es.drop i).map entA)++(zs.drop 4).drop dz.length:=by
  rw [qc7 _ _ _ (by rw [List.length_append,ht4,hfl1];omega),hnew]
 have hl1:((flat ((es.take i).map entA)++flat [entA e])++zs.drop 4).length=(cap'+1) * 4:=by
  simp only [List.length_append,List.length_drop,ht4,hfl1,z1]
  omega
 have hl2:(flat ((es.take i++e::es.drop i).map entA)++(zs.drop 4).drop dz.length).length=(cap'+1) * 4:=by
  rw [← hsp2,qg0 (by rw [hl1,hd4];omega),hl1]
 have hl0:(flat ((es.take i).map entA)++zs).length=(cap'+1) * 4:=by
  rw [List.length_append,ht4,z1]
  omega
 repeat' (first|apply ql|apply qe|apply qf|apply qi|apply qg)
 refine zv (o:=st.length) (ver:=0) (off:=0) (len:=es.length+1) (cap:=cap'+1) (sz:=4) (i:=i) (j:=es.length+1) (m:=cap'+1) rfl rfl rfl ?_ ?_ ?_ (by omega) (by omega) (by omega) ?_
 ·exact⟨_,rfl⟩
 ·exact⟨rfl,rfl⟩
 ·exact rfl
 rw [hi3]
 repeat' (first|apply qi)
 refine yu (o:=st.length) (ver:=0) (off:=0+i * 4) (sz:=4) (bytes:=56) (L:=1) (m:=1) rfl rfl xd (.sl [entA e] none rfl) ?_ rfl ⟨⟨_,_,rfl,rfl,rfl,rfl,rfl⟩⟩ ?_ ?_
 ·show min _ _=_
  omega
 ·rw [hl0]
  omega
 rw [hsp1]
 generalize hX1:(flat ((es.take i).map entA)++flat [entA e])++zs.drop 4=X1 at hsp2 hl1
 have hbo:(st++[AObj.cells 0 139 (flat ((es.take i).map entA)++zs)])[st.length]? = some (.cells 0 139 (flat ((es.take i).map entA)++zs)):=xd
 have hS1n:((st++[AObj.cells 0 139 (flat ((es.take i).map entA)++zs)]).set st.length (.cells 0 139 X1))[st.length]? = some (.cells 0 139 X1):=jy hbo
 have hS1o:((st++[AObj.cells 0 139 (flat ((es.take i).map entA)++zs)]).set st.length (.cells 0 139 X1))[o]? = some (.cells ver 139 X0):=by
  rw [List.getElem?_set_ne (by omega),List.getElem?_append_left hlt]
  exact e2
 have hS1j:∀ j,j<st.length→((st++[AObj.cells 0 139 (flat ((es.take i).map entA)++zs)]).set st.length (.cells 0 139 X1))[j]? = st[j]?:=fun j hj=>by
  rw [List.getElem?_set_ne (by omega),List.getElem?_append_left hj]
 have hS1l:((st++[AObj.cells 0 139 (flat ((es.take i).map entA)++zs)]).set st.length (.cells 0 139 X1)).length=st.length+1:=by simp
 repeat' (first|apply ql|apply qf)
 refine qdx [(0,.os o ver 0 es.length (cap+1)),(1,Iv i),(7,Iv 1),(9,.os st.length 0 0 (es.length+1) (cap'+1))] ((st++[AObj.cells 0 139 (flat ((es.take i).map entA)++zs)]).set st.length (.cells 0 139 X1)) [] ⟨rfl,rfl,rfl,rfl,trivial⟩ rfl rfl fun t=>?_
 generalize (st++[AObj.cells 0 139 (flat ((es.take i).map entA)++zs)]).set st.length (.cells 0 139 X1)=S1 at hS1n hS1o hS1j hS1l
 refine qr0 (fun s=>StA [(9,.os st.length 0 0 (es.length+1) (cap'+1))] (S1.set st.length (.cells 0 139 (flat ((es.take i++e::es.drop i).map entA)++(zs.drop 4).drop dz.length))) [] s) ?_ ?_
 ·refine qif rfl rfl ?_
  (apply xp 0;exact rfl;kernel_rfl;kernel_rfl;kernel_rfl;exact rfl;exact yj)
  (apply xp 1;exact rfl;kernel_rfl;kernel_rfl;kernel_rfl;exact rfl;exact yj)
  (apply xp 2;exact rfl;kernel_rfl;kernel_rfl;kernel_rfl;exact rfl;exact yj)
  (apply xp 5;exact rfl;kernel_rfl;kernel_rfl;kernel_rfl;exact rfl;exact yj)
  (apply xp 6;exact rfl;kernel_rfl;kernel_rfl;kernel_rfl;exact rfl;exact yj)
  refine wd [3,7] (by kernel_rfl) rfl ⟨⟨_,rfl,?_⟩,⟨_,rfl,?_⟩,trivial⟩
  ·(apply zk;exact rfl;exact rfl;exact zb (by omega) (by omega))
   apply qf
   refine wd [4,7] (by kernel_rfl) rfl ⟨⟨_,rfl,?_⟩,⟨_,rfl,?_⟩,trivial⟩
   ·(refine zv (o:=st.length) (ver:=0) (off:=0) (len:=es.length+1) (cap:=cap'+1) (sz:=4) (i:=i+1) (j:=es.length+1) (m:=cap'+1) rfl rfl rfl ?_ ?_ ?_ (by omega) (by omega) (by omega) ?_;exact⟨_,rfl⟩;exact⟨rfl,rfl⟩;exact rfl;rw [hi4])
    apply qf
    refine wd [7] (by kernel_rfl) rfl ⟨⟨_,rfl,?_⟩,trivial⟩
    (refine zv (o:=o) (ver:=ver) (off:=0) (len:=es.length) (cap:=cap+1) (sz:=4) (i:=i) (j:=es.length) (m:=cap+1) rfl rfl rfl ?_ ?_ ?_ (by omega) (by omega) (by omega) ?_;exact⟨_,rfl⟩;exact⟨rfl,rfl⟩;exact rfl;rw [hi1])
    apply qf
    refine wd [8] (by kernel_rfl) rfl ⟨⟨_,rfl,?_⟩,trivial⟩
    (refine yu (o:=st.length) (ver:=0) (off:=(i+1) * 4) (sz:=4) (bytes:=56) (m:=es.length - i) rfl rfl hS1n (hsrc S1 hS1o) ?_ rfl ⟨⟨_,_,rfl,rfl,rfl,rfl,rfl⟩⟩ ?_ ?_;(show min _ _=_;omega);(rw [hl1];omega);rw [hsp2])
    apply qf
    refine qb5 (by kernel_rfl) ?_
    exact jw ⟨rfl,trivial⟩
   ·(refine zv (o:=o) (ver:=ver) (off:=0) (len:=es.length) (cap:=cap+1) (sz:=4) (i:=i) (j:=es.length) (m:=cap+1) rfl rfl rfl ?_ ?_ ?_ (by omega) (by omega) (by omega) ?_;exact⟨_,rfl⟩;exact⟨rfl,rfl⟩;exact rfl;rw [hi1])
    apply qf
    refine wd [4] (by kernel_rfl) rfl ⟨⟨_,rfl,?_⟩,trivial⟩
    (refine zv (o:=st.length) (ver:=0) (off:=0) (len:=es.length+1) (cap:=cap'+1) (sz:=4) (i:=i+1) (j:=es.length+1) (m:=cap'+1) rfl rfl rfl ?_ ?_ ?_ (by omega) (by omega) (by omega) ?_;exact⟨_,rfl⟩;exact⟨rfl,rfl⟩;exact rfl;rw [hi4])
    apply qf
    refine wd [8] (by kernel_rfl) rfl ⟨⟨_,rfl,?_⟩,trivial⟩
    (refine yu (o:=st.length) (ver:=0) (off:=(i+1) * 4) (sz:=4) (bytes:=56) (m:=es.length - i) rfl rfl hS1n (hsrc S1 hS1o) ?_ rfl ⟨⟨_,_,rfl,rfl,rfl,rfl,rfl⟩⟩ ?_ ?_;(show min _ _=_;omega);(rw [hl1];omega);rw [hsp2])
    apply qf
    refine qb5 (by kernel_rfl) ?_
    exact jw ⟨rfl,trivial⟩
  ·(refine zv (o:=o) (ver:=ver) (off:=0) (len:=es.length) (cap:=cap+1) (sz:=4) (i:=i) (j:=es.length) (m:=cap+1) rfl rfl rfl ?_ ?_ ?_ (by omega) (by omega) (by omega) ?_;exact⟨_,rfl⟩;exact⟨rfl,rfl⟩;exact rfl;rw [hi1])
   apply qf
   refine wd [3] (by kernel_rfl) rfl ⟨⟨_,rfl,?_⟩,trivial⟩
   (apply zk;exact rfl;exact rfl;exact zb (by omega) (by omega))
   apply qf
   refine wd [4] (by kernel_rfl) rfl ⟨⟨_,rfl,?_⟩,trivial⟩
   (refine zv (o:=st.length) (ver:=0) (off:=0) (len:=es.length+1) (cap:=cap'+1) (sz:=4) (i:=i+1) (j:=es.length+1) (m:=cap'+1) rfl rfl rfl ?_ ?_ ?_ (by omega) (by omega) (by omega) ?_;exact⟨_,rfl⟩;exact⟨rfl,rfl⟩;exact rfl;rw [hi4])
   apply qf
   refine wd [8] (by kernel_rfl) rfl ⟨⟨_,rfl,?_⟩,trivial⟩
   (refine yu (o:=st.length) (ver:=0) (off:=(i+1) * 4) (sz:=4) (bytes:=56) (m:=es.length - i) rfl rfl hS1n (hsrc S1 hS1o) ?_ rfl ⟨⟨_,_,rfl,rfl,rfl,rfl,rfl⟩⟩ ?_ ?_;(show min _ _=_;omega);(rw [hl1];omega);rw [hsp2])
   apply qf
   refine qb5 (by kernel_rfl) ?_
   exact jw ⟨rfl,trivial⟩
 ·rintro _ ⟨t,rfl⟩
  repeat' (first|apply ql|apply qe|apply qf|apply qi|apply qg|apply qt)
  refine qn rfl (q9 rfl) ?_
  show OwnR 4 139 _ st _ (.os st.length 0 0 (es.length+1) (cap'+1)) (S1.set st.length (.cells 0 139 (flat ((es.take i++e::es.drop i).map entA)++(zs.drop 4).drop dz.length)))
  refine⟨.inr ⟨st.length,0,cap',_,by rw [List.length_map,hnl],jy hS1n,hl2,qhh _,by rw [List.length_map,hnl];omega,z3⟩,by rw [List.length_set,hS1l];omega,fun j hj _=>?_,fun o' ho'=>?_⟩
  ·rw [List.getElem?_set_ne (by omega)]
   exact hS1j j hj
  ·simp only [zn,Option.some.injEq] at ho'
   left
   omega
theorem q55 (es:List EntV) (e:EntV) (i:Nat) (hi:i≤es.length) (hl:es.length<1000000) (st:List AObj) (c:AV) (hc:OwnS st 4 139 (es.map entA) c):qm E 188 [c,Iv i,.sl 4 [entA e] none] st fun r st'=>OwnR 4 139 ((es.take i++e::es.drop i).map entA) st c r st':=by
 have hml:(es.map entA).length=es.length:=by simp
 have hap:i=es.length→(es.take i++e::es.drop i).map entA=es.map entA++[entA e]:=fun h=>by subst h;simp
 rcases hc with⟨h0,hnr⟩ | ⟨o,ver,cap,pad,rfl,e2,e3,e4,e5,e6⟩
 ·have hes:es=[]:=by simpa using h0
  subst hes
  obtain rfl:i=0:=by simpa using hi
  rw [hap rfl]
  exact zb3 e st c hnr
 ·rw [hml] at e5 ⊢
  by_cases hin:i=es.length
  ·rw [hap hin]
   subst hin
   exact zb4 es e hl st o ver cap pad e2 e3 e5 e6
  ·by_cases hroom:es.length+1≤cap+1
   ·exact zb6 es e i (by omega) hl st o ver cap pad e2 e3 hroom e6
   ·exact zb5 es e i (by omega) hl st o ver cap pad e2 e3 (by omega) e6
end Go.Proofs.YtmoklbacdkmkaaaGreatDoor
namespace Go.Pl
open Go Go.Proofs
def qm3 (l:q7) (i:Nat) (x:zm):q7:=match l.ents[i]? with
 |some e=>⟨l.ents.set i ⟨x,e.id⟩,l.next,l.many⟩
 |none=>l
def y7 (l:q7) (id:Int) (fs:List Fld):ErrV×q7:=if atF l id<0 then (.num 7,l) else if jl fs = .no then (.no,qm3 l (atF l id).toNat (qb2 fs)) else (jl fs,l)
def delL (l:q7) (i:Nat):q7:=⟨l.ents.take i++l.ents.drop (i+1),l.next,l.many - 1⟩
def delF (l:q7) (id:Int):ErrV×q7:=if atF l id<0 then (.num 7,l) else (.no,delL l (atF l id).toNat)
def insL (l:q7) (k:Nat) (x:zm):q7:=⟨l.ents.take k++⟨x,l.next⟩::l.ents.drop k,l.next+1,l.many+1⟩
def insF (l:q7) (id:Int) (fs:List Fld):Int×ErrV×q7:=
 if atF l id<0∧id≠0 then (0,.num 7,l) else if jl fs = .no then (if 400≤l.many then (0,.num 11,l) else (l.next,.no,insL l (atF l id+1).toNat (qb2 fs))) else (0,jl fs,l)
structure LB (n:Nat) (l:q7):Prop where
 small:n<900000
 len:l.ents.length≤n
 nx0:1≤l.next
 nx1:l.next≤n+1
 mn0 : -(n:Int)≤l.many
 mn1:l.many≤n
theorem q9b {n:Nat} {l:q7} (h:LB n l) (hs:n+1<900000) (id:Int) (fs:List Fld):LB (n+1) (y7 l id fs).2:=by
 have h1:=h.len;have h2:=h.nx0;have h3:=h.nx1;have h4:=h.mn0;have h5:=h.mn1
 unfold y7
 split
 ·exact⟨hs,by simp only;omega,h2,by simp only;omega,by simp only;omega,by simp only;omega⟩
 ·split
  ·unfold qm3
   split
   ·exact⟨hs,by simp;omega,h2,by simp only;omega,by simp only;omega,by simp only;omega⟩
   ·exact⟨hs,by simp only;omega,h2,by simp only;omega,by simp only;omega,by simp only;omega⟩
  ·exact⟨hs,by simp only;omega,h2,by simp only;omega,by simp only;omega,by simp only;omega⟩
theorem zav {n:Nat} {l:q7} (h:LB n l) (hs:n+1<900000) (id:Int):LB (n+1) (delF l id).2:=by
 have h1:=h.len;have h2:=h.nx0;have h3:=h.nx1;have h4:=h.mn0;have h5:=h.mn1
 unfold delF
 split
 ·exact⟨hs,by simp only;omega,h2,by simp only;omega,by simp only;omega,by simp only;omega⟩
 ·exact⟨hs,by simp [delL];omega,h2,by simp only [delL];omega,by simp only [delL];omega,by simp only [delL];omega⟩
theorem zba {n:Nat} {l:q7} (h:LB n l) (hs:n+1<900000) (id:Int) (fs:List Fld):LB (n+1) (insF l id fs).2.2:=by
 have h1:=h.len;have h2:=h.nx0;have h3:=h.nx1;have h4:=h.mn0;have h5:=h.mn1
 have same:LB (n+1) l:=⟨hs,by omega,h2,by omega,by omega,by omega⟩
 unfold insF
 split
 ·exact same
 ·split
  ·split
   ·exact same
   ·exact⟨hs,by simp [insL];omega,by simp only [insL];omega,by simp only [insL];omega,by simp only [insL];omega,by simp only [insL];omega⟩
  ·exact same
end Go.Pl
namespace Go.Proofs.YtmoklbacdkmkaaaGreatDoor
open Go Go.Av Go.RowKit Go.Proofs Go.Pl
def oneF (l:q7) (x:qu):Int×ErrV×q7:=if x.kind=1 then (0,y7 l x.id x.fields) else if x.kind=2 then (0,delF l x.id) else insF l x.id x.fields
theorem qm1 {n:Nat} {l:q7} (h:LB n l) (hs:n+1<900000) (x:qu):LB (n+1) (oneF l x).2.2:=by
 unfold oneF
 split
 ·exact q9b h hs _ _
 ·split
  ·exact zav h hs _
  ·exact zba h hs _ _
theorem zbg (l:q7) (hl:l.ents.length<1000000):vk E 72 [.a (vm l)] 0 (hpF []) ⟨.bx 0 0,vj [],lstH 1 l++vt [],2⟩:=by
 refine xc [.a (vm l)] [] 0 (.bx 0 0) (lstH 1 l) 2 Tryz.func72 rfl rfl rfl rfl fun S F ρ=>?_
 apply qd [19]
 repeat' (first|apply And.intro|(intro h;try exact cDd)|exact⟨Tryz.call130⟩|(refine Exists.intro _ ⟨qyt [.sl 4 (l.ents.map entA) none] _ (fun _=>rfl) (fun st=>q1m l.ents st hl),?_⟩)|exact cSd|apply qa [19]|refine exr ?_|refine qh ?_)
theorem zbm (n:Nat) (l:q7) (id:Int) (fs:List Fld) (hB:LB n l) (hK:KeyB fs) (hl:fs.length<1000000):vk E 131 [.bx 0 0,.i id,.a (zz fs)] 2 (hpF (lstH 1 l)) ⟨.a (errA (y7 l id fs).1),vj (lstH 1 l),lstH 2 (y7 l id fs).2++vt (lstH 1 l),3⟩:=by
 refine xc [.bx 0 0,.i id,.a (zz fs)] (lstH 1 l) 2 (.a (errA (y7 l id fs).1)) (lstH 2 (y7 l id fs).2) 3 Tryz.func131 rfl rfl rfl rfl fun S F ρ=>?_
 have hle:=hB.len
 have hsm:=hB.small
 have h1:=qrz l id (by omega)
 have h2:=fun st=>q0n fs st hK hl
 unfold y7
 rcases qhd l id with h | ⟨i,e,h,he,hid,hid1⟩
 ·rw [h] at h1 ⊢
  rw [if_pos (by decide)]
  apply qd []
  repeat' (first|apply And.intro|(intro h;try exact cDd)|exact⟨Tryz.call69⟩|(refine jj h1 ?_)|exact cSd|apply qa []|refine exr ?_|refine qh ?_)
 ·rw [h] at h1 ⊢
  rw [if_neg (by omega)]
  have hm:(l.ents.map entA)[i]? = some (entA e):=by rw [List.getElem?_map,he];rfl
  have hil:=lt_of_getElem? hm
  unfold qb2 at h2 ⊢
  cases hc:jl fs with
  |no=>
   rw [hc,if_pos rfl] at h2
   rw [if_pos rfl,if_pos rfl]
   unfold qm3
   rw [Int.toNat_natCast,he]
   apply qd []
   repeat' (first|apply And.intro|(intro h;try exact cDd)|exact⟨Tryz.call69⟩|(refine jj h1 ?_)|exact⟨Tryz.call186⟩|refine cpe h2 ?_|(refine qov (i:=i) rfl rfl rfl rfl rfl rfl (by omega) ?_)|(refine q5l (i:=i) (j:=0) (z:=entA e) (z':=entA ⟨⟨3,zx fs,fs⟩,e.id⟩) (u:=z0 ⟨3,zx fs,fs⟩) rfl rfl (fun _=>rfl) rfl rfl rfl hm rfl rfl ?_)|exact cSd|apply qa []|refine exr ?_|refine qh ?_)
   all_goals (simp [List.map_set];done)
  |num m=>
   rw [hc,if_neg (by simp)] at h2
   rw [if_neg (by simp)]
   apply qd []
   repeat' (first|apply And.intro|(intro h;try exact cDd)|exact⟨Tryz.call69⟩|(refine jj h1 ?_)|exact⟨Tryz.call186⟩|refine cpe h2 ?_|exact cSd|apply qa []|refine exr ?_|refine qh ?_)
  |at' a m=>
   rw [hc,if_neg (by simp)] at h2
   rw [if_neg (by simp)]
   apply qd []
   repeat' (first|apply And.intro|(intro h;try exact cDd)|exact⟨Tryz.call69⟩|(refine jj h1 ?_)|exact⟨Tryz.call186⟩|refine cpe h2 ?_|exact cSd|apply qa []|refine exr ?_|refine qh ?_)
theorem zc8 (n:Nat) (l:q7) (id:Int) (hB:LB n l):vk E 132 [.bx 0 0,.i id] 2 (hpF (lstH 1 l)) ⟨.a (errA (delF l id).1),vj (lstH 1 l),lstH 2 (delF l id).2++vt (lstH 1 l),3⟩:=by
 refine xc [.bx 0 0,.i id] (lstH 1 l) 2 (.a (errA (delF l id).1)) (lstH 2 (delF l id).2) 3 Tryz.func132 rfl rfl rfl rfl fun S F ρ=>?_
 have hle:=hB.len
 have hsm:=hB.small
 have h4:=hB.mn0
 have h5:=hB.mn1
 have h1:=qrz l id (by omega)
 unfold delF
 rcases qhd l id with h | ⟨i,e,h,he,hid,hid1⟩
 ·rw [h] at h1 ⊢
  rw [if_pos (by decide)]
  apply qd []
  repeat' (first|apply And.intro|(intro h;try exact cDd)|exact⟨Tryz.call69⟩|(refine jj h1 ?_)|exact cSd|apply qa []|refine exr ?_|refine qh ?_)
 ·rw [h] at h1 ⊢
  rw [if_neg (by omega)]
  have hil:=lt_of_getElem? he
  have h2:=qoc (f:=187) (E:=E) (xs:=l.ents.map entA) [Iv i,Iv ((i:Int)+1)] rfl (fun st c hc=>zdw l.ents i hil (by omega) st c hc)
  unfold delL
  rw [Int.toNat_natCast]
  apply qd []
  repeat' (first|apply And.intro|(intro h;try exact cDd)|exact⟨Tryz.call69⟩|(refine jj h1 ?_)|exact⟨Tryz.call187⟩|(refine jj h2 ?_)|exact cSd|apply qa []|refine exr ?_|refine qh ?_)
theorem zdc (n:Nat) (l:q7) (id:Int) (fs:List Fld) (hB:LB n l) (hK:KeyB fs) (hl:fs.length<1000000):vk E 133 [.bx 0 0,.i id,.a (zz fs)] 2 (hpF (lstH 1 l)) ⟨.tu [.i (insF l id fs).1,.a (errA (insF l id fs).2.1)],vj (lstH 1 l),lstH 2 (insF l id fs).2.2++vt (lstH 1 l),3⟩:=by
 refine xc [.bx 0 0,.i id,.a (zz fs)] (lstH 1 l) 2 (.tu [.i (insF l id fs).1,.a (errA (insF l id fs).2.1)]) (lstH 2 (insF l id fs).2.2) 3 Tryz.func133 rfl rfl rfl rfl fun S F ρ=>?_
 have hle:=hB.len
 have hsm:=hB.small
 have h4:=hB.mn0
 have h5:=hB.mn1
 have h6:=hB.nx0
 have h7:=hB.nx1
 have h1:=qrz l id (by omega)
 have h2:=fun st=>q0n fs st hK hl
 unfold insF
 rcases qhd l id with h | ⟨i,e,h,he,hid,hid1⟩
 ·rw [h] at h1 ⊢
  by_cases h0:id=0
  ·rw [if_neg (fun q=>q.2 h0)]
   rw [show ((-1:Int)+1).toNat=0 from rfl]
   unfold qb2 at h2 ⊢
   cases hc:jl fs with
   |no=>
    rw [hc,if_pos rfl] at h2
    rw [if_pos rfl,if_pos rfl]
    by_cases hm:400≤l.many
    ·rw [if_pos hm]
     apply qd []
     repeat' (first|apply And.intro|(intro h;try exact cDd)|exact⟨Tryz.call69⟩|(refine jj h1 ?_)|exact⟨Tryz.call186⟩|refine cpe h2 ?_|exact cSd|apply qa []|refine exr ?_|refine qh ?_)
    ·rw [if_neg hm]
     have h3:=qoc (f:=188) (E:=E) (xs:=l.ents.map entA) [Iv ((0:Nat):Int),.sl 4 [entA ⟨⟨3,zx fs,fs⟩,l.next⟩] none] rfl (fun st c hc=>q55 l.ents ⟨⟨3,zx fs,fs⟩,l.next⟩ (0) (by omega) (by omega) st c hc)
     unfold insL
     apply qd []
     repeat' (first|apply And.intro|(intro h;try exact cDd)|exact⟨Tryz.call69⟩|(refine jj h1 ?_)|exact⟨Tryz.call186⟩|refine cpe h2 ?_|exact⟨Tryz.call188⟩|(refine jj h3 ?_)|exact cSd|apply qa []|refine exr ?_|refine qh ?_)
   |num m=>
    rw [hc,if_neg (by simp)] at h2
    rw [if_neg (by simp)]
    apply qd []
    repeat' (first|apply And.intro|(intro h;try exact cDd)|exact⟨Tryz.call69⟩|(refine jj h1 ?_)|exact⟨Tryz.call186⟩|refine cpe h2 ?_|exact cSd|apply qa []|refine exr ?_|refine qh ?_)
   |at' a m=>
    rw [hc,if_neg (by simp)] at h2
    rw [if_neg (by simp)]
    apply qd []
    repeat' (first|apply And.intro|(intro h;try exact cDd)|exact⟨Tryz.call69⟩|(refine jj h1 ?_)|exact⟨Tryz.call186⟩|refine cpe h2 ?_|exact cSd|apply qa []|refine exr ?_|refine qh ?_)
  ·rw [if_pos ⟨by decide,h0⟩]
   apply qd []
   repeat' (first|apply And.intro|(intro h;try exact cDd)|exact⟨Tryz.call69⟩|(refine jj h1 ?_)|exact cSd|apply qa []|refine exr ?_|refine qh ?_)
 ·rw [h] at h1 ⊢
  have hil:=lt_of_getElem? he
  rw [if_neg (fun q=>absurd q.1 (by omega))]
  rw [show ((i:Int)+1).toNat=i+1 from rfl]
  unfold qb2 at h2 ⊢
  cases hc:jl fs with
  |no=>
   rw [hc,if_pos rfl] at h2
   rw [if_pos rfl,if_pos rfl]
   by_cases hm:400≤l.many
   ·rw [if_pos hm]
    apply qd []
    repeat' (first|apply And.intro|(intro h;try exact cDd)|exact⟨Tryz.call69⟩|(refine jj h1 ?_)|exact⟨Tryz.call186⟩|refine cpe h2 ?_|exact cSd|apply qa []|refine exr ?_|refine qh ?_)
   ·rw [if_neg hm]
    have h3:=qoc (f:=188) (E:=E) (xs:=l.ents.map entA) [Iv ((i+1:Nat):Int),.sl 4 [entA ⟨⟨3,zx fs,fs⟩,l.next⟩] none] rfl (fun st c hc=>q55 l.ents ⟨⟨3,zx fs,fs⟩,l.next⟩ (i+1) (by omega) (by omega) st c hc)
    unfold insL
    apply qd []
    repeat' (first|apply And.intro|(intro h;try exact cDd)|exact⟨Tryz.call69⟩|(refine jj h1 ?_)|exact⟨Tryz.call186⟩|refine cpe h2 ?_|exact⟨Tryz.call188⟩|(refine jj h3 ?_)|exact cSd|apply qa []|refine exr ?_|refine qh ?_)
  |num m=>
   rw [hc,if_neg (by simp)] at h2
   rw [if_neg (by simp)]
   apply qd []
   repeat' (first|apply And.intro|(intro h;try exact cDd)|exact⟨Tryz.call69⟩|(refine jj h1 ?_)|exact⟨Tryz.call186⟩|refine cpe h2 ?_|exact cSd|apply qa []|refine exr ?_|refine qh ?_)
  |at' a m=>
   rw [hc,if_neg (by simp)] at h2
   rw [if_neg (by simp)]
   apply qd []
   repeat' (first|apply And.intro|(intro h;try exact cDd)|exact⟨Tryz.call69⟩|(refine jj h1 ?_)|exact⟨Tryz.call186⟩|refine cpe h2 ?_|exact cSd|apply qa []|refine exr ?_|refine qh ?_)
def wh:Nat→List qu→q7→List Int→ErrV×q7×List Int
 | _,[],l,ids=>(.no,l,ids)
 |k,x::r,l,ids=>if (oneF l x).2.1 = .no then wh (k+1) r (oneF l x).2.2 (if 0<(oneF l x).1 then ids++[(oneF l x).1] else ids) else (.at' k (oneF l x).2.1.code,l,ids)
def doF (l:q7) (b:List qu):ErrV×q7×List Int:=if eErr b = .no then wh 0 b l [] else (eErr b,l,[])
def doA (r:ErrV×q7×List Int):AV:=match r.1 with
 | .no=>.tu [vm r.2.1,ku r.2.2,errA .no]
 |e=>.tu [.v (.pointer none),ku [],errA e]
theorem q7o (r:ErrV×q7×List Int):Pure (doA r):=by
 unfold doA
 split
 ·exact qa8 (qgs _) (qbu _) (kp _)
 ·exact qa8 (qq _) (qbu _) (kp _)
theorem qmg {l:q7} {x:qu} (h:(oneF l x).2.1≠.no):(oneF l x).2.1.code≠0:=by
 have key:∀ fs:List Fld,jl fs≠.no→(jl fs).code≠0:=fun fs h h'=>h ((qhf fs).1 h')
 unfold oneF at h ⊢
 split
 ·rename_i h1
  rw [if_pos h1] at h
  unfold y7 at h ⊢
  split
  ·exact (by decide:(ErrV.num 7).code≠0)
  ·rename_i h2
   rw [if_neg h2] at h
   split
   ·rename_i h3
    rw [if_pos h3] at h
    exact absurd rfl h
   ·exact key _ (by assumption)
 ·rename_i h1
  rw [if_neg h1] at h
  split
  ·rename_i h2
   rw [if_pos h2] at h
   unfold delF at h ⊢
   split
   ·exact (by decide:(ErrV.num 7).code≠0)
   ·rename_i h3
    rw [if_neg h3] at h
    exact absurd rfl h
  ·rename_i h2
   rw [if_neg h2] at h
   unfold insF at h ⊢
   split
   ·exact (by decide:(ErrV.num 7).code≠0)
   ·rename_i h3
    rw [if_neg h3] at h
    split
    ·rename_i h4
     rw [if_pos h4] at h
     split
     ·exact (by decide:(ErrV.num 11).code≠0)
     ·rename_i h5
      rw [if_neg h5] at h
      exact absurd rfl h
    ·exact key _ (by assumption)
theorem zcy (n:Nat) (l:q7) (x:qu) (hB:LB n l) (hK:KeyB x.fields) (hl:x.fields.length<1000000):vk E 73 [.bx 0 0,.a (j6 x)] 2 (hpF (lstH 1 l)) ⟨.tu [.i (oneF l x).1,.a (errA (oneF l x).2.1)],vj (lstH 1 l),lstH 2 (oneF l x).2.2++vt (lstH 1 l),3⟩:=by
 refine xc [.bx 0 0,.a (j6 x)] (lstH 1 l) 2 (.tu [.i (oneF l x).1,.a (errA (oneF l x).2.1)]) (lstH 2 (oneF l x).2.2) 3 Tryz.func73 rfl rfl rfl rfl fun S F ρ=>?_
 unfold oneF
 by_cases h1:x.kind=1
 ·rw [if_pos h1]
  have hc:=zbm n l x.id x.fields hB hK hl
  generalize y7 l x.id x.fields=r at hc
  apply qd []
  repeat' (first|apply And.intro|(intro h;try exact cDd)|exact⟨Tryz.call131⟩|(refine jj hc ?_)|exact cSd|apply qa []|refine exr ?_|refine qh ?_)
 ·rw [if_neg h1]
  by_cases h2:x.kind=2
  ·rw [if_pos h2]
   have hc:=zc8 n l x.id hB
   generalize delF l x.id=r at hc
   apply qd []
   repeat' (first|apply And.intro|(intro h;try exact cDd)|exact⟨Tryz.call132⟩|(refine jj hc ?_)|exact cSd|apply qa []|refine exr ?_|refine qh ?_)
  ·rw [if_neg h2]
   have hc:=zdc n l x.id x.fields hB hK hl
   generalize insF l x.id x.fields=r at hc
   apply qd []
   repeat' (first|apply And.intro|(intro h;try exact cDd)|exact⟨Tryz.call133⟩|(refine jj hc ?_)|exact cSd|apply qa []|refine exr ?_|refine qh ?_)
theorem q9z (n:Nat) (l:q7) (b:List qu) (st:List AObj) (hB:LB n l) (hn:n+40<900000) (hE:∀ x∈b,EdB x) (hl:b.length<1000000):qm E 27 [vm l,zj b] st fun r st'=>r=doA (doF l b)∧st'=st:=by
 refine qox [.a (vm l),.a (zj b)] (q7o _) Tryz.func27 rfl rfl (fun _=>rfl) rfl fun S0=>?_
 have hck:=fun st=>qj5 b st _ rfl hE (by omega)
 unfold doF
 cases he:eErr b with
 |num m=>
  rw [he] at hck
  rw [if_neg (by simp)]
  apply qd []
  repeat' (first|apply And.intro|(intro h;try exact cDd)|exact⟨Tryz.call71⟩|refine cpe hck ?_|exact cSd|apply qa []|refine exr ?_|refine qh ?_)
 |at' a m=>
  rw [he] at hck
  rw [if_neg (by simp)]
  apply qd []
  repeat' (first|apply And.intro|(intro h;try exact cDd)|exact⟨Tryz.call71⟩|refine cpe hck ?_|exact cSd|apply qa []|refine exr ?_|refine qh ?_)
 |no=>
  rw [he] at hck
  rw [if_pos rfl]
  obtain⟨hb1,hb40,hg⟩:=qe1 he
  have hcp:=zbg l (by have:=hB.len;omega)
  apply qd []
  repeat' (first|apply And.intro|(intro h;try exact cDd)|exact⟨Tryz.call71⟩|refine cpe hck ?_|exact⟨Tryz.call72⟩|(refine jj hcp ?_)|exact cSd|apply qa []|refine exr ?_|refine qh ?_)
  refine zq (X:=Nat×q7×List Int) (fun (k,q,ids)=>⟨[(8,.bx 0 0),(9,.tp 2),(21,.a (zj b)),(22,.i b.length),(23,.i k)],[(0,some (.cells 112 [.tp 1,.i q.next,.i q.many])),(1,some (.own 4 139 (q.ents.map entA))),(2,some (.tip 1 3 (ids.map fun x=>Iv x)))],3⟩)
   (fun (k,q,ids)=>k≤b.length∧LB (n+k) q∧ids.length≤k∧wh k (b.drop k) q ids=wh 0 b l []) (fun (k,q,ids)=>b.length - k) (0,l,[]) ⟨by omega,hB,by simp,rfl⟩ ?_ ?_
  ·skip
   repeat' (first|apply And.intro|(intro h;try exact cDd)|exact cSd|apply qa []|refine exr ?_|refine qh ?_)
   all_goals (simp;done)
  ·rintro⟨k,q,ids⟩ ⟨hk,hq,hil,hrun⟩
   by_cases hkn:k<b.length
   ·have hx:b[k]? = some b[k]:=List.getElem?_eq_getElem hkn
    have hxm:(b.map j6)[k]? = some (j6 b[k]):=by rw [List.getElem?_map,hx];rfl
    have hxE:=hE b[k] (List.getElem_mem hkn)
    have hxf:=(qjl (hg b[k] (List.getElem_mem hkn))).1
    rw [List.drop_eq_getElem_cons hkn,wh] at hrun
    have hidl:(ids.map fun x=>Iv x).length=ids.length:=by simp
    generalize b[k]=x at hx hxm hxE hxf hrun
    have hon:=zcy (n+k) q x hq hxE.keys (by omega)
    have hlb:=qm1 hq (by omega) x
    have hcd:=fun h=>qmg (l:=q) (x:=x) h
    generalize oneF q x=o at hon hlb hcd hrun
    obtain⟨id,e,q'⟩:=o
    dsimp only at hon hlb hcd hrun
    cases e with
    |no=>
     rw [if_pos rfl] at hrun
     by_cases h0:0<id
     ·rw [if_pos h0] at hrun
      apply qd []
      repeat' (first|apply And.intro|(intro h;try exact cDd)|(refine Exists.intro (k) ⟨by omega,_,hxm,?_⟩)|exact⟨Tryz.call73⟩|(refine jj hon ?_)|(refine Exists.intro (k+1,q',ids++[id]) ⟨⟨by omega,hlb,by simp;omega,hrun⟩,by simp only;omega,?_⟩)|exact cSd|apply qa []|refine exr ?_|refine qh ?_)
      all_goals first|(simp;done)|(simp;omega)
     ·rw [if_neg h0] at hrun
      apply qd []
      repeat' (first|apply And.intro|(intro h;try exact cDd)|(refine Exists.intro (k) ⟨by omega,_,hxm,?_⟩)|exact⟨Tryz.call73⟩|(refine jj hon ?_)|(refine Exists.intro (k+1,q',ids) ⟨⟨by omega,hlb,by first|omega|(simp only;omega),hrun⟩,by simp only;omega,?_⟩)|exact cSd|apply qa []|refine exr ?_|refine qh ?_)
      all_goals first|(simp;done)|(simp;omega)
    |num m=>
     rw [if_neg (by simp)] at hrun
     rw [← hrun]
     have hft:=fun st=>qoe k (.num m) st (hcd (by simp))
     apply qd []
     repeat' (first|apply And.intro|(intro h;try exact cDd)|(refine Exists.intro (k) ⟨by omega,_,hxm,?_⟩)|exact⟨Tryz.call73⟩|(refine jj hon ?_)|exact⟨Tryz.call74⟩|refine cpe hft ?_|exact cSd|apply qa []|refine exr ?_|refine qh ?_)
    |at' a m=>
     rw [if_neg (by simp)] at hrun
     rw [← hrun]
     have hft:=fun st=>qoe k (.at' a m) st (hcd (by simp))
     apply qd []
     repeat' (first|apply And.intro|(intro h;try exact cDd)|(refine Exists.intro (k) ⟨by omega,_,hxm,?_⟩)|exact⟨Tryz.call73⟩|(refine jj hon ?_)|exact⟨Tryz.call74⟩|refine cpe hft ?_|exact cSd|apply qa []|refine exr ?_|refine qh ?_)
   ·have hkn:k=b.length:=by omega
    subst hkn
    rw [List.drop_length,wh] at hrun
    rw [← hrun]
    apply qd []
    repeat' (first|apply And.intro|(intro h;try exact cDd)|exact cSd|apply qa []|refine exr ?_|refine qh ?_)
structure RunV where
 l:q7
 given:List (List Int)
 touched:List Int
def qbh (b:List qu):List Int:=(b.filter fun x=>decide (x.kind≠3)).map fun x=>x.id
def yt (r:RunV) (b:List qu):RunV:=⟨(doF r.l b).2.1,r.given++[(doF r.l b).2.2],r.touched++qbh b⟩
def kz:List (List qu)→RunV→ErrV×RunV
 | [],r=>(.no,r)
 |b::q,r=>if (doF r.l b).1 = .no then kz q (yt r b) else (.at' r.given.length 10,r)
def jm (base:qb) (bs:List (List qu)):ErrV×RunV:=if jz base = .no then kz bs ⟨ofF (itsE base),[],[]⟩ else (jz base,⟨ofF [],[],[]⟩)
@[reducible] def qho (g : List (List Int)) : AV := .sl 1 (g.map ku) none
@[reducible] def runA (r : RunV) : AV := .pp [vm r.l, qho r.given, ku r.touched]
def q2n (r:ErrV×RunV):AV:=match r.1 with
 | .no=>.tu [runA r.2,errA .no]
 |e=>.tu [.v (.pointer none),errA e]
theorem qi6 (g:List (List Int)):Pure (qho g):=qaf fun x hx=>by
 obtain⟨f,_,rfl⟩:=List.mem_map.1 hx
 intro y hy
 simp only [AV.cells,List.mem_cons,List.not_mem_nil,or_false] at hy
 rw [hy]
 exact qbu f
theorem q2o (r:ErrV×RunV):Pure (q2n r):=by
 unfold q2n
 split
 ·exact kg (qsg fun x hx=>by
   simp only [List.mem_cons,List.not_mem_nil,or_false] at hx
   rcases hx with rfl|rfl|rfl
   ·exact qgs _
   ·exact qi6 _
   ·exact qbu _) (kp _)
 ·exact kg (qq _) (kp _)
theorem qd2 {n m:Nat} {l:q7} (h:LB n l) (hm:n≤m) (hs:m<900000):LB m l:=by
 have h1:=h.len;have h2:=h.nx0;have h3:=h.nx1;have h4:=h.mn0;have h5:=h.mn1
 exact⟨hs,by omega,h2,by omega,by omega,by omega⟩
theorem qs7:∀ (b:List qu) (k n:Nat) (l:q7) (ids:List Int),LB n l→n+b.length<900000→LB (n+b.length) (wh k b l ids).2.1
 | [],k,n,l,ids,h,_=>h
 |x::r,k,n,l,ids,h,hs=>by
  simp only [List.length_cons] at hs ⊢
  unfold wh
  split
  ·have:=qs7 r (k+1) (n+1) (oneF l x).2.2 (if 0<(oneF l x).1 then ids++[(oneF l x).1] else ids) (qm1 h (by omega) x) (by omega)
   rw [show n+(r.length+1)=n+1+r.length by omega]
   exact this
  ·have h1:=h.len;have h2:=h.nx0;have h3:=h.nx1;have h4:=h.mn0;have h5:=h.mn1
   exact⟨by omega,by simp only;omega,h2,by simp only;omega,by simp only;omega,by simp only;omega⟩
theorem qv3 {n:Nat} {l:q7} (h:LB n l) (hs:n+40<900000) (b:List qu):LB (n+40) (doF l b).2.1:=by
 unfold doF
 split
 ·rename_i he
  obtain⟨h1,h2,_⟩:=qe1 he
  exact qd2 (qs7 b 0 n l [] h (by omega)) (by omega) hs
 ·exact qd2 h (by omega) hs
theorem q5a:∀ (its:List zm) (n:Nat) (l:q7),LB n l→n+its.length<900000→LB (n+its.length) (its.foldl qax l)
 | [],n,l,h,_=>h
 |x::r,n,l,h,hs=>by
  simp only [List.length_cons] at hs ⊢
  rw [List.foldl_cons,show n+(r.length+1)=n+1+r.length by omega]
  refine q5a r (n+1) _ ?_ (by omega)
  have h1:=h.len;have h2:=h.nx0;have h3:=h.nx1;have h4:=h.mn0;have h5:=h.mn1
  unfold qax
  split
  ·exact⟨by omega,by simp;omega,by simp only;omega,by simp only;omega,by simp only;omega,by simp only;omega⟩
  ·exact⟨by omega,by simp;omega,h2,by simp only;omega,by simp only;omega,by simp only;omega⟩
theorem qxb (text:qb):LB 300000 (ofF (itsE text)):=by
 have h:=qop text
 have:=q5a (itsE text) 0 ⟨[],1,0⟩ ⟨by omega,by simp,by simp,by simp,by simp,by simp⟩ (by omega)
 exact qd2 this (by omega) (by omega)
@[reducible] def runH (a : Nat) (r : RunV) : List (Nat × Option SR) := [(0, some (.cells 134 [.a (vm r.l), .tp a, .tp (a + 1)])), (a, some (.tip 1 24 (r.given.map ku))), (a + 1, some (.tip 1 3 (r.touched.map fun x => Iv x)))]
def BB (b:List qu):Prop:=b.length<1000000∧∀ x∈b,EdB x
theorem zbz (n:Nat) (r:RunV) (b:List qu) (hB:LB n r.l) (hn:n+40<900000) (hg:r.given.length<1000000) (ht:r.touched.length<100000000) (hb:BB b) (hok:(doF r.l b).1 = .no):vk E 126 [.bx 0 0,.a (zj b)] 3 (hpF (runH 1 r)) ⟨.a (.v .nilIface),vj (runH 1 r),runH 3 (yt r b)++vt (runH 1 r),5⟩:=by
 refine xc [.bx 0 0,.a (zj b)] (runH 1 r) 3 (.a (.v .nilIface)) (runH 3 (yt r b)) 5 Tryz.func126 rfl rfl rfl rfl fun S F ρ=>?_
 have hdo:=fun st=>q9z n r.l b st hB hn hb.2 hb.1
 unfold yt
 generalize doF r.l b=d at hdo hok
 obtain⟨e,l',ids⟩:=d
 simp only at hok
 subst hok
 have hgl:(r.given.map ku).length=r.given.length:=by simp
 have hbl:=hb.1
 apply qd []
 repeat' (first|apply And.intro|(intro h;try exact cDd)|exact⟨Tryz.call27⟩|refine cpe hdo ?_|exact cSd|apply qa []|refine exr ?_|refine qh ?_)
 refine zq (X:=Nat) (fun k=>⟨[(0,.bx 0 0),(45,.a (zj b)),(46,.i b.length),(47,.i k)],[(0,some (.cells 134 [.a (vm l'),.tp 3,.tp 4])),(3,some (.tip 1 24 ((r.given++[ids]).map ku))),(4,some (.tip 1 3 ((r.touched++qbh (b.take k)).map fun x=>Iv x)))],5⟩)
  (fun k=>k≤b.length) (fun k=>b.length - k) 0 (by omega) ?_ ?_
 ·skip
  repeat' (first|apply And.intro|(intro h;try exact cDd)|exact cSd|apply qa []|refine exr ?_|refine qh ?_)
  all_goals (simp [qbh];done)
 ·rintro k hk
  by_cases hkn:k<b.length
  ·have hx:b[k]? = some b[k]:=List.getElem?_eq_getElem hkn
   have hxm:(b.map j6)[k]? = some (j6 b[k]):=by rw [List.getElem?_map,hx];rfl
   have htk:b.take (k+1)=b.take k++[b[k]]:=by rw [List.take_add_one,hx];rfl
   have htl:(qbh (b.take k)).length≤k:=by
    unfold qbh
    rw [List.length_map]
    exact Nat.le_trans (List.length_filter_le _ _) (by simp;omega)
   generalize b[k]=x at hx hxm htk
   by_cases h3:x.kind=3
   ·have e:qbh (b.take (k+1))=qbh (b.take k):=by rw [htk];simp [qbh,h3]
    apply qd []
    repeat' (first|apply And.intro|(intro h;try exact cDd)|(refine Exists.intro (k) ⟨by omega,_,hxm,?_⟩)|(refine Exists.intro (k+1) ⟨by omega,by omega,?_⟩)|exact cSd|apply qa []|refine exr ?_|refine qh ?_)
    all_goals (rw [e];done)
   ·have e:qbh (b.take (k+1))=qbh (b.take k)++[x.id]:=by rw [htk];simp [qbh,h3]
    apply qd []
    repeat' (first|apply And.intro|(intro h;try exact cDd)|(refine Exists.intro (k) ⟨by omega,_,hxm,?_⟩)|(refine Exists.intro (k+1) ⟨by omega,by omega,?_⟩)|exact cSd|apply qa []|refine exr ?_|refine qh ?_)
    all_goals first|(rw [e];simp;done)|(simp;omega)
  ·have hkn:k=b.length:=by omega
   subst hkn
   rw [List.take_length]
   apply qd []
   repeat' (first|apply And.intro|(intro h;try exact cDd)|exact cSd|apply qa []|refine exr ?_|refine qh ?_)
theorem q9g (n:Nat) (r:RunV) (b:List qu) (hB:LB n r.l) (hn:n+40<900000) (hg:r.given.length<1000000) (hb:BB b) (hok:(doF r.l b).1≠.no):vk E 126 [.bx 0 0,.a (zj b)] 3 (hpF (runH 1 r)) ⟨.a (errA (.at' r.given.length 10)),vj (runH 1 r),runH 3 r++vt (runH 1 r),5⟩:=by
 refine xc [.bx 0 0,.a (zj b)] (runH 1 r) 3 (.a (errA (.at' r.given.length 10))) (runH 3 r) 5 Tryz.func126 rfl rfl rfl rfl fun S F ρ=>?_
 have hdo:=fun st=>q9z n r.l b st hB hn hb.2 hb.1
 have hgl:(r.given.map ku).length=r.given.length:=by simp
 generalize doF r.l b=d at hdo hok
 obtain⟨e,l',ids⟩:=d
 simp only at hok
 cases e with
 |no=>exact absurd rfl hok
 |num m=>
  apply qd []
  repeat' (first|apply And.intro|(intro h;try exact cDd)|exact⟨Tryz.call27⟩|refine cpe hdo ?_|exact cSd|apply qa []|refine exr ?_|refine qh ?_)
  all_goals (rw [hgl];rfl)
 |at' a m=>
  apply qd []
  repeat' (first|apply And.intro|(intro h;try exact cDd)|exact⟨Tryz.call27⟩|refine cpe hdo ?_|exact cSd|apply qa []|refine exr ?_|refine qh ?_)
  all_goals (rw [hgl];rfl)
theorem q0r (base:qb) (bs:List (List qu)) (st:List AObj) (hl:base.length<1000000) (hn:bs.length≤14000) (hb:∀ b∈bs,BB b∧b.length≤5000):qm E 67 [Sv base,vw bs] st fun r st'=>r=q2n (jm base bs)∧st'=st:=by
 refine qox [.s base,.a (vw bs)] (q2o _) Tryz.func67 rfl rfl (fun _=>rfl) rfl fun S0=>?_
 have hof:=fun st=>q8g base st hl
 have hlb:=qxb base
 unfold jm
 generalize itsE base=its at hof hlb
 cases he:jz base with
 |num m=>
  rw [he] at hof
  rw [if_neg (by simp)]
  apply qd [22]
  repeat' (first|apply And.intro|(intro h;try exact cDd)|exact⟨Tryz.call87⟩|refine cpe hof ?_|exact cSd|apply qa [22]|refine exr ?_|refine qh ?_)
 |at' a m=>
  rw [he] at hof
  rw [if_neg (by simp)]
  apply qd [22]
  repeat' (first|apply And.intro|(intro h;try exact cDd)|exact⟨Tryz.call87⟩|refine cpe hof ?_|exact cSd|apply qa [22]|refine exr ?_|refine qh ?_)
 |no=>
  rw [he] at hof
  rw [if_pos rfl]
  apply qd [22]
  repeat' (first|apply And.intro|(intro h;try exact cDd)|exact⟨Tryz.call87⟩|refine cpe hof ?_|exact cSd|apply qa [22]|refine exr ?_|refine qh ?_)
  refine zq (X:=Nat×RunV) (fun (k,r)=>⟨[(8,.bx 0 0),(23,.a (vw bs)),(24,.i bs.length),(25,.i k)],[(0,some (.cells 134 [.a (vm r.l),.tp 1,.tp 2])),(1,some (.tip 1 24 (r.given.map ku))),(2,some (.tip 1 3 (r.touched.map fun x=>Iv x)))],3⟩)
   (fun (k,r)=>k≤bs.length∧LB (300000+40 * k) r.l∧r.given.length=k∧r.touched.length≤5000 * k∧kz (bs.drop k) r=kz bs ⟨ofF its,[],[]⟩) (fun (k,r)=>bs.length - k) (0,⟨ofF its,[],[]⟩) ⟨by omega,hlb,rfl,by simp,rfl⟩ ?_ ?_
  ·skip
   repeat' (first|apply And.intro|(intro h;try exact cDd)|exact cSd|apply qa []|refine exr ?_|refine qh ?_)
   all_goals (simp;done)
  ·rintro⟨k,r⟩ ⟨hk,hq,hgl,htl,hrun⟩
   by_cases hkn:k<bs.length
   ·have hx:bs[k]? = some bs[k]:=List.getElem?_eq_getElem hkn
    have hxm:(bs.map zj)[k]? = some (zj bs[k]):=by rw [List.getElem?_map,hx];rfl
    obtain⟨hbb,hb5⟩:=hb bs[k] (List.getElem_mem hkn)
    rw [List.drop_eq_getElem_cons hkn,kz] at hrun
    generalize bs[k]=b at hx hxm hbb hb5 hrun
    have hlb2:=qv3 hq (by omega) b
    by_cases hok:(doF r.l b).1 = .no
    ·rw [if_pos hok] at hrun
     have htk:=zbz (300000+40 * k) r b hq (by omega) (by omega) (by omega) hbb hok
     have hgl2:(yt r b).given.length=k+1:=by simp [yt,hgl]
     have htl2:(yt r b).touched.length≤5000 * (k+1):=by
      have:(qbh b).length≤b.length:=by
       unfold qbh
       rw [List.length_map]
       exact List.length_filter_le _ _
      simp only [yt,List.length_append]
      omega
     have hlb3:LB (300000+40 * (k+1)) (yt r b).l:=qd2 hlb2 (by omega) (by omega)
     generalize yt r b=r2 at htk hrun hgl2 htl2 hlb3
     apply qd []
     repeat' (first|apply And.intro|(intro h;try exact cDd)|(refine Exists.intro (k) ⟨by omega,_,hxm,?_⟩)|exact⟨Tryz.call126⟩|(refine jj htk ?_)|(refine Exists.intro (k+1,r2) ⟨⟨by omega,hlb3,hgl2,htl2,hrun⟩,by simp only;omega,?_⟩)|exact cSd|apply qa []|refine exr ?_|refine qh ?_)
    ·rw [if_neg hok] at hrun
     rw [← hrun]
     have htk:=q9g (300000+40 * k) r b hq (by omega) (by omega) hbb hok
     apply qd []
     repeat' (first|apply And.intro|(intro h;try exact cDd)|(refine Exists.intro (k) ⟨by omega,_,hxm,?_⟩)|exact⟨Tryz.call126⟩|(refine jj htk ?_)|exact cSd|apply qa []|refine exr ?_|refine qh ?_)
   ·have hkn:k=bs.length:=by omega
    subst hkn
    rw [List.drop_length,kz] at hrun
    rw [← hrun]
    apply qd []
    repeat' (first|apply And.intro|(intro h;try exact cDd)|exact cSd|apply qa []|refine exr ?_|refine qh ?_)
structure BkB (b:j5):Prop where
 base:b.base.length<1000000
 len:b.batches.length≤14000
 bat:∀ x∈b.batches,BB x∧x.length≤5000
theorem q5s (b:List qu):9≤(recE b).length:=by
 unfold recE recF qip
 simp [zy]
 omega
theorem qra:∀ r:List (List qu),9 * r.length≤(w7 r).length
 | []=>by simp [w7]
 |b::r=>by
  have h1:=qra r
  have h2:=q5s b
  rw [qc1]
  simp only [List.length_append,List.length_cons]
  omega
theorem q7d {text:qb} {b:j5} (h:qag text b):BkB b:=by
 have h1:=congrArg List.length h.split
 have h2:=h.len
 have h3:=qra b.batches
 simp only [List.length_append,x4] at h1
 refine⟨by omega,by omega,fun x hx=>?_⟩
 obtain⟨g1,g2,_⟩:=qe1 (h.good x hx).ok
 exact⟨⟨by omega,(h.good x hx).B⟩,by omega⟩
def qey (b:j5) (n:Int):ErrV×RunV:=if n<0∨(b.batches.length:Int)<n then (.num 1,⟨ofF [],[],[]⟩) else jm b.base (b.batches.take n.toNat)
theorem qmh (b:j5) (n:Int) (st:List AObj) (hB:BkB b):qm E 23 [wz b,Iv n] st fun r st'=>r=qhv (qey b n).1 (qey b n).2.l∧st'=st:=by
 refine ze [.a (wz b),.i n] (qi7 _ _) Tryz.func23 rfl rfl (fun _=>rfl) rfl fun S0=>?_
 have hbl:=hB.len
 have hml:(b.batches.map zj).length=b.batches.length:=by simp
 unfold qey
 by_cases hn:n<0∨(b.batches.length:Int)<n
 ·rw [if_pos hn]
  apply qd []
  repeat' (first|apply And.intro|(intro h;try exact cDd)|exact cSd|apply qa []|refine exr ?_|refine qh ?_)
 ·rw [if_neg hn]
  obtain⟨k,rfl⟩:∃ k:Nat,n=(k:Int):=⟨n.toNat,by omega⟩
  rw [Int.toNat_natCast]
  have hp:=fun st=>q0r b.base (b.batches.take k) st hB.base (by simp;omega) (fun x hx=>hB.bat x (List.mem_of_mem_take hx))
  unfold vw at hp
  rw [List.map_take] at hp
  generalize jm b.base (b.batches.take k)=p at hp
  obtain⟨e,r⟩:=p
  cases e with
  |no=>
   apply qd []
   repeat' (first|apply And.intro|(intro h;try exact cDd)|exact⟨Tryz.call67⟩|refine cpe hp ?_|exact cSd|apply qa []|refine exr ?_|refine qh ?_)
  |num m=>
   apply qd []
   repeat' (first|apply And.intro|(intro h;try exact cDd)|exact⟨Tryz.call67⟩|refine cpe hp ?_|exact cSd|apply qa []|refine exr ?_|refine qh ?_)
  |at' a m=>
   apply qd []
   repeat' (first|apply And.intro|(intro h;try exact cDd)|exact⟨Tryz.call67⟩|refine cpe hp ?_|exact cSd|apply qa []|refine exr ?_|refine qh ?_)
theorem q94 (b:j5) (st:List AObj) (hB:BkB b):qm E 24 [wz b] st fun r st'=>r=qhv (jm b.base b.batches).1 (jm b.base b.batches).2.l∧st'=st:=by
 refine ze [.a (wz b)] (qi7 _ _) Tryz.func24 rfl rfl (fun _=>rfl) rfl fun S0=>?_
 have hml:(b.batches.map zj).length=b.batches.length:=by simp
 have e:qey b (((b.batches.map zj).length:Nat):Int)=jm b.base b.batches:=by
  unfold qey
  rw [hml,if_neg (by omega),Int.toNat_natCast,List.take_length]
 have hp:=fun st=>qmh b (((b.batches.map zj).length:Nat):Int) st hB
 rw [e] at hp
 generalize jm b.base b.batches=p at hp
 obtain⟨er,r⟩:=p
 cases er with
 |no=>
  apply qd []
  repeat' (first|apply And.intro|(intro h;try exact cDd)|exact⟨Tryz.call23⟩|refine cpe hp ?_|exact cSd|apply qa []|refine exr ?_|refine qh ?_)
 |num m=>
  apply qd []
  repeat' (first|apply And.intro|(intro h;try exact cDd)|exact⟨Tryz.call23⟩|refine cpe hp ?_|exact cSd|apply qa []|refine exr ?_|refine qh ?_)
 |at' a m=>
  apply qd []
  repeat' (first|apply And.intro|(intro h;try exact cDd)|exact⟨Tryz.call23⟩|refine cpe hp ?_|exact cSd|apply qa []|refine exr ?_|refine qh ?_)
def qh1 (text:qb):ErrV×j5×q7:=if (we text).1 = .no then (if (jm (we text).2.base (we text).2.batches).1 = .no then (.no,(we text).2,(jm (we text).2.base (we text).2.batches).2.l) else ((jm (we text).2.base (we text).2.batches).1,qff,ofF [])) else ((we text).1,qff,ofF [])
def qrf (r:ErrV×j5×q7):AV:=match r.1 with
 | .no=>.tu [wz r.2.1,vm r.2.2,errA .no]
 |e=>.tu [wz r.2.1,.v (.pointer none),errA e]
theorem qzn (r:ErrV×j5×q7):Pure (qrf r):=by
 unfold qrf
 split
 ·exact qa8 (qgl _) (qgs _) (kp _)
 ·exact qa8 (qgl _) (qq _) (kp _)
theorem zb0 (text:qb) (st:List AObj) (hl:text.length<1000000):qm E 12 [Sv text] st fun r st'=>r=qrf (qh1 text)∧st'=st:=by
 refine ze [.s text] (qzn _) Tryz.func12 rfl rfl (fun _=>rfl) rfl fun S0=>?_
 have hbr:=fun st=>qz2 text st hl
 have hbk:(we text).1 = .no→BkB (we text).2:=fun h=>q7d (qvu (text:=text) (b:=(we text).2) (by rw [← h]))
 unfold qh1
 generalize we text=q at hbr hbk
 obtain⟨e,b⟩:=q
 cases e with
 |num m=>
  rw [if_neg (by simp)]
  apply qd []
  repeat' (first|apply And.intro|(intro h;try exact cDd)|exact⟨Tryz.call19⟩|refine cpe hbr ?_|exact cSd|apply qa []|refine exr ?_|refine qh ?_)
 |at' a m=>
  rw [if_neg (by simp)]
  apply qd []
  repeat' (first|apply And.intro|(intro h;try exact cDd)|exact⟨Tryz.call19⟩|refine cpe hbr ?_|exact cSd|apply qa []|refine exr ?_|refine qh ?_)
 |no=>
  rw [if_pos rfl]
  have hof:=fun st=>q94 b st (hbk rfl)
  dsimp only
  generalize jm b.base b.batches=p at hof
  obtain⟨e,r⟩:=p
  cases e with
  |no=>
   rw [if_pos rfl]
   apply qd []
   repeat' (first|apply And.intro|(intro h;try exact cDd)|exact⟨Tryz.call19⟩|refine cpe hbr ?_|exact⟨Tryz.call24⟩|refine cpe hof ?_|exact cSd|apply qa []|refine exr ?_|refine qh ?_)
  |num m=>
   rw [if_neg (by simp)]
   apply qd []
   repeat' (first|apply And.intro|(intro h;try exact cDd)|exact⟨Tryz.call19⟩|refine cpe hbr ?_|exact⟨Tryz.call24⟩|refine cpe hof ?_|exact cSd|apply qa []|refine exr ?_|refine qh ?_)
  |at' a m=>
   rw [if_neg (by simp)]
   apply qd []
   repeat' (first|apply And.intro|(intro h;try exact cDd)|exact⟨Tryz.call19⟩|refine cpe hbr ?_|exact⟨Tryz.call24⟩|refine cpe hof ?_|exact cSd|apply qa []|refine exr ?_|refine qh ?_)
end Go.Proofs.YtmoklbacdkmkaaaGreatDoor
namespace Go.Pl
open Go Go.Proofs
def cntF (es:List EntV):Nat:=es.countP fun e=>decide (0<e.id)
theorem qlx (es:List EntV) (e:EntV):cntF (es++[e])=cntF es+if 0<e.id then 1 else 0:=by
 unfold cntF
 rw [List.countP_append]
 by_cases h:0<e.id <;> simp [h]
theorem zar (es:List EntV):cntF es≤es.length:=List.countP_le_length
end Go.Pl
namespace Go.Proofs.YtmoklbacdkmkaaaGreatDoor
open Go Go.Av Go.RowKit Go.Proofs Go.Pl
theorem qku {a b c d:AV} (h1:Pure a) (h2:Pure b) (h3:Pure c) (h4:Pure d):Pure (.tu [a,b,c,d]):=qca fun z hz=>by
 simp only [List.mem_cons,List.not_mem_nil,or_false] at hz
 rcases hz with rfl|rfl|rfl|rfl
 ·exact h1
 ·exact h2
 ·exact h3
 ·exact h4
@[reducible] def qbo (es : List EntV) : AV := .sl 4 (es.map entA) none
@[reducible] def kl (l : q7) : AV := .ag [qbo l.ents, Iv l.next]
theorem q10 (es:List EntV):Pure (qbo es):=qaf fun x hx=>by
 obtain⟨f,_,rfl⟩:=List.mem_map.1 hx
 exact qqe f
theorem yw (l:q7):Pure (kl l):=qae fun y hy=>by
 simp only [AV.cells,List.mem_cons,List.not_mem_nil,or_false] at hy
 rcases hy with rfl|rfl
 ·exact q10 _
 ·exact qq _
def ofR (text:qb):q7:=if jz text = .no then ofF (itsE text) else⟨[],0,0⟩
theorem qzl {text:qb} (h:jz text = .no):qa0 text = .tu [ji (itsE text),Iv (-9),Iv 0]:=by
 unfold qa0 itsE
 unfold jz at h
 split
 ·rename_i hb
  rw [if_pos hb] at h
  simp at h
 ·rename_i hb
  rw [if_neg hb] at h
  rcases hp:(jv text).1 with _ | ⟨a,n⟩
  ·rfl
  ·rw [hp] at h
   simp at h
theorem q5z (text:qb) (st:List AObj) (hl:text.length<1000000):qm E 82 [Sv text] st fun r st'=>r = .tu [kl (ofR text),Iv (jz text).pos,Iv (jz text).code]∧st'=st:=by
 refine ze [.s text] (qa8 (yw _) (qq _) (qq _)) Tryz.func82 rfl rfl (fun _=>rfl) rfl fun S0=>?_
 unfold ofR
 by_cases hno:jz text = .no
 ·have hp:=fun st=>qmj text st hl
  rw [qzl hno] at hp
  have hil:=qop text
  rw [hno,if_pos rfl]
  generalize itsE text=its at hp hil
  have hmi:(its.map z0).length=its.length:=by simp
  apply qd []
  repeat' (first|apply And.intro|(intro h;try exact cDd)|exact⟨Tryz.call63⟩|refine cpe hp ?_|exact cSd|apply qa []|refine exr ?_|refine qh ?_)
  refine zq (X:=Nat×q7) (fun (k,l)=>⟨[(2,.bx 0 0),(5,.a (ji its)),(6,.i (-9)),(8,.bx 1 0),(9,.i k)],[(0,some (.cells 35 [.a zh,.i 0])),(1,some (.cells 35 [.tp 2,.i l.next])),(2,some (.tip 4 162 (l.ents.map entA)))],3⟩)
   (fun (k,l)=>k≤its.length∧l.ents.length=k∧(1≤l.next∧l.next≤k+1)∧(its.drop k).foldl qax l=ofF its) (fun (k,l)=>its.length - k) (0,⟨[],1,0⟩) ⟨by omega,rfl,⟨by decide,by decide⟩,rfl⟩ ?_ ?_
  ·skip
   repeat' (first|apply And.intro|(intro h;try exact cDd)|exact cSd|apply qa []|refine exr ?_|refine qh ?_)
   all_goals (simp;done)
  ·rintro⟨k,l⟩ ⟨hk,hlk,hnx,hrun⟩
   by_cases hkn:k<its.length
   ·have hx:its[k]? = some its[k]:=List.getElem?_eq_getElem hkn
    have hxm:(its.map z0)[k]? = some (z0 its[k]):=by rw [List.getElem?_map,hx];rfl
    rw [List.drop_eq_getElem_cons hkn,List.foldl_cons] at hrun
    have hml:(l.ents.map entA).length=l.ents.length:=by simp
    generalize its[k]=x at hx hxm hrun
    by_cases hk3:x.kind=3
    ·have e:qax l x=⟨l.ents++[⟨x,l.next⟩],l.next+1,l.many+1⟩:=if_pos hk3
     rw [e] at hrun
     apply qd []
     repeat' (first|apply And.intro|(intro h;try exact cDd)|(refine Exists.intro (k) ⟨by omega,_,hxm,?_⟩)|(refine Exists.intro (k+1,⟨l.ents++[⟨x,l.next⟩],l.next+1,l.many+1⟩) ⟨⟨by omega,by simp [hlk],by simp only;omega,hrun⟩,by simp only;omega,?_⟩)|exact cSd|apply qa []|refine exr ?_|refine qh ?_)
     all_goals (simp;done)
    ·have e:qax l x=⟨l.ents++[⟨x,0⟩],l.next,l.many⟩:=if_neg hk3
     rw [e] at hrun
     apply qd []
     repeat' (first|apply And.intro|(intro h;try exact cDd)|(refine Exists.intro (k) ⟨by omega,_,hxm,?_⟩)|(refine Exists.intro (k+1,⟨l.ents++[⟨x,0⟩],l.next,l.many⟩) ⟨⟨by omega,by simp [hlk],by simp only;omega,hrun⟩,by simp only;omega,?_⟩)|exact cSd|apply qa []|refine exr ?_|refine qh ?_)
     all_goals (simp;done)
   ·have hkn:k=its.length:=by omega
    subst hkn
    rw [List.drop_length] at hrun
    have e:ofF its=l:=hrun.symm
    rw [e]
    apply qd []
    repeat' (first|apply And.intro|(intro h;try exact cDd)|exact cSd|apply qa []|refine exr ?_|refine qh ?_)
 ·obtain⟨its,p,n,hpa,hp,hn,hn0⟩:=qt0 text hl
  have hz:n≠0:=fun h=>hno (hn0.1 h)
  rw [if_neg hno,← hp,← hn]
  apply qd []
  repeat' (first|apply And.intro|(intro h;try exact cDd)|exact⟨Tryz.call63⟩|refine cpe hpa ?_|exact cSd|apply qa []|refine exr ?_|refine qh ?_)
theorem qi8 (l:q7) (id:Int) (st:List AObj) (hl:l.ents.length<1000000):qm E 234 [kl l,Iv id] st fun r st'=>r=Iv (atF l id)∧st'=st:=by
 refine ze [.a (kl l),.i id] (qq _) Tryz.func234 rfl rfl (fun _=>rfl) rfl fun S0=>?_
 unfold atF
 obtain⟨es,nx,mn⟩:=l
 dsimp only at hl ⊢
 have hmi:(es.map entA).length=es.length:=by simp
 apply qd []
 repeat' (first|apply And.intro|(intro h;try exact cDd)|exact cSd|apply qa []|refine exr ?_|refine qh ?_)
 refine zq (X:=Nat) (fun k=>⟨[(1,.i id),(2,.a (.pp [qbo es,Iv nx])),(5,.i k)],[],0⟩) (fun k=>k≤es.length∧(0<id→x8 id k (es.drop k)=x8 id 0 es)) (fun k=>es.length - k) 0 ⟨by omega,by simp⟩ ?_ ?_
 ·skip
  repeat' (first|apply And.intro|(intro h;try exact cDd)|exact cSd|apply qa []|refine exr ?_|refine qh ?_)
  all_goals (simp;done)
 ·rintro k ⟨hk,hrun⟩
  by_cases h1:id<1
  ·rw [if_pos h1]
   apply qd []
   repeat' (first|apply And.intro|(intro h;try exact cDd)|exact cSd|apply qa []|refine exr ?_|refine qh ?_)
  ·rw [if_neg h1]
   have hrun:=hrun (by omega)
   by_cases hkn:k<es.length
   ·have hx:es[k]? = some es[k]:=List.getElem?_eq_getElem hkn
    have hxm:(es.map entA)[k]? = some (entA es[k]):=by rw [List.getElem?_map,hx];rfl
    rw [List.drop_eq_getElem_cons hkn,x8] at hrun
    generalize es[k]=e at hx hxm hrun
    by_cases hid:e.id=id
    ·rw [if_pos hid] at hrun
     rw [← hrun]
     apply qd []
     repeat' (first|apply And.intro|(intro h;try exact cDd)|(refine Exists.intro (k) ⟨by omega,_,hxm,?_⟩)|exact cSd|apply qa []|refine exr ?_|refine qh ?_)
    ·rw [if_neg hid] at hrun
     apply qd []
     repeat' (first|apply And.intro|(intro h;try exact cDd)|(refine Exists.intro (k) ⟨by omega,_,hxm,?_⟩)|(refine Exists.intro (k+1) ⟨⟨by omega,fun _=>hrun⟩,by omega,?_⟩)|exact cSd|apply qa []|refine exr ?_|refine qh ?_)
   ·have hkn:k=es.length:=by omega
    subst hkn
    rw [List.drop_length,x8] at hrun
    rw [← hrun]
    apply qd []
    repeat' (first|apply And.intro|(intro h;try exact cDd)|exact cSd|apply qa []|refine exr ?_|refine qh ?_)
theorem q2z (l:q7) (st:List AObj) (hl:l.ents.length<1000000):qm E 91 [kl l] st fun r st'=>r=Iv (cntF l.ents)∧st'=st:=by
 refine ze [.a (kl l)] (qq _) Tryz.func91 rfl rfl (fun _=>rfl) rfl fun S0=>?_
 obtain⟨es,nx,mn⟩:=l
 dsimp only at hl ⊢
 have hmi:(es.map entA).length=es.length:=by simp
 apply qd []
 repeat' (first|apply And.intro|(intro h;try exact cDd)|exact cSd|apply qa []|refine exr ?_|refine qh ?_)
 refine zq (X:=Nat) (fun k=>⟨[(1,.a (.pp [qbo es,Iv nx])),(3,.i (cntF (es.take k):Nat)),(4,.i k)],[],0⟩) (fun k=>k≤es.length) (fun k=>es.length - k) 0 (by omega) ?_ ?_
 ·skip
  repeat' (first|apply And.intro|(intro h;try exact cDd)|exact cSd|apply qa []|refine exr ?_|refine qh ?_)
  all_goals (simp [cntF];done)
 ·rintro k hk
  by_cases hkn:k<es.length
  ·have hx:es[k]? = some es[k]:=List.getElem?_eq_getElem hkn
   have hxm:(es.map entA)[k]? = some (entA es[k]):=by rw [List.getElem?_map,hx];rfl
   have htk:es.take (k+1)=es.take k++[es[k]]:=by rw [List.take_add_one,hx];rfl
   have hct:=qlx (es.take k) es[k]
   have hcl:=zar (es.take k)
   have hcl2:(es.take k).length≤k:=by simp;omega
   rw [← htk] at hct
   generalize es[k]=e at hx hxm hct
   by_cases h0:0<e.id
   ·rw [if_pos h0] at hct
    apply qd []
    repeat' (first|apply And.intro|(intro h;try exact cDd)|(refine Exists.intro (k) ⟨by omega,_,hxm,?_⟩)|(refine Exists.intro (k+1) ⟨by omega,by omega,?_⟩)|exact cSd|apply qa []|refine exr ?_|refine qh ?_)
    all_goals (simp [hct];done)
   ·rw [if_neg h0] at hct
    apply qd []
    repeat' (first|apply And.intro|(intro h;try exact cDd)|(refine Exists.intro (k) ⟨by omega,_,hxm,?_⟩)|(refine Exists.intro (k+1) ⟨by omega,by omega,?_⟩)|exact cSd|apply qa []|refine exr ?_|refine qh ?_)
    all_goals (simp [hct];done)
  ·have hkn:k=es.length:=by omega
   subst hkn
   rw [List.take_length]
   apply qd []
   repeat' (first|apply And.intro|(intro h;try exact cDd)|exact cSd|apply qa []|refine exr ?_|refine qh ?_)
theorem qn2 (fs:List Fld) (st:List AObj) (h:quu fs):qm E 235 [zz fs] st fun r st'=>r=z0 ⟨3,zx fs,fs⟩∧st'=st:=by
 refine ze [.a (zz fs)] (qae (qfh _)) Tryz.func235 rfl rfl (fun _=>rfl) rfl fun S0=>?_
 have h1:=fun st=>q5y fs st h
 apply qd []
 repeat' (first|apply And.intro|(intro h;try exact cDd)|exact⟨Tryz.call184⟩|refine cpe h1 ?_|exact cSd|apply qa []|refine exr ?_|refine qh ?_)
end Go.Proofs.YtmoklbacdkmkaaaGreatDoor
namespace Go.Pl
open Go Go.Proofs Go.Av
def dlF (i:Nat) (es:List EntV) (k:Nat):List EntV:=(es.take k).take i++(es.take k).drop (i+1)
theorem zcw {i:Nat} {es:List EntV} {k:Nat} {e:EntV} (h:es[k]? = some e):dlF i es (k+1)=dlF i es k++if k=i then [] else [e]:=by
 have hk:=lt_of_getElem? h
 have hl:(es.take k).length=k:=by simp;omega
 unfold dlF
 rw [List.take_add_one,h]
 simp only [Option.toList_some]
 rw [List.take_append,List.drop_append,hl]
 by_cases hki:k=i
 ·subst hki
  rw [if_pos rfl]
  have e1:(es.take k).drop (k+1)=[]:=List.drop_eq_nil_of_le (by omega)
  simp [e1]
 ·rw [if_neg hki]
  by_cases hlt:k<i
  ·have e1:(es.take k).drop (i+1)=[]:=List.drop_eq_nil_of_le (by omega)
   obtain⟨d,hd⟩:∃ d,i - k=d+1:=⟨i - k - 1,by omega⟩
   have hd2:i+1 - k=d+1+1:=by omega
   rw [e1,hd,hd2]
   simp
  ·have hd:i - k=0:=by omega
   have hd2:i+1 - k=0:=by omega
   rw [hd,hd2]
   simp
def inF (j:Nat) (x:EntV) (es:List EntV) (k:Nat):List EntV:=(es.take k).take j++if j≤k then x::(es.take k).drop j else []
theorem zc4 {j:Nat} {x:EntV} {es:List EntV} {k:Nat} {e:EntV} (h:es[k]? = some e):inF j x es (k+1)=inF j x es k++e::if j=k+1 then [x] else []:=by
 have hk:=lt_of_getElem? h
 have hl:(es.take k).length=k:=by simp;omega
 unfold inF
 rw [List.take_add_one,h]
 simp only [Option.toList_some]
 rw [List.take_append,List.drop_append,hl]
 by_cases hjk:j=k+1
 ·subst hjk
  have e1:(es.take k).drop (k+1)=[]:=List.drop_eq_nil_of_le (by omega)
  have e2:k+1 - k=1:=by omega
  rw [if_pos (Nat.le_refl _),if_pos rfl,if_neg (by omega),e1,e2]
  simp
 ·rw [if_neg hjk]
  by_cases hlt:j≤k
  ·have hd:j - k=0:=by omega
   rw [if_pos (by omega),if_pos hlt,hd]
   simp
  ·obtain⟨d,hd⟩:∃ d,j - k=d+1:=⟨j - k - 1,by omega⟩
   rw [if_neg (by omega),if_neg hlt,hd]
   simp
end Go.Pl
namespace Go.Proofs.YtmoklbacdkmkaaaGreatDoor
open Go Go.Av Go.RowKit Go.Proofs Go.Pl
def rlR (l:q7) (e:ErrV):AV:=.tu [kl l,Iv e.pos,Iv e.code]
theorem q9f (l:q7) (e:ErrV):Pure (rlR l e):=qa8 (yw _) (qq _) (qq _)
theorem qp2 (fs:List Fld) (h:jl fs≠.no):∃ p n,(jl fs).pos=p∧(jl fs).code=n∧n≠0:=⟨_,_,rfl,rfl,fun h'=>h ((qhf fs).1 h')⟩
theorem qzm (l:q7) (id:Int) (fs:List Fld) (st:List AObj) (hl:l.ents.length<1000000) (hK:KeyB fs) (hfl:fs.length<1000000):qm E 196 [kl l,Iv id,zz fs] st fun r st'=>r=rlR (y7 l id fs).2 (y7 l id fs).1∧st'=st:=by
 refine ze [.a (kl l),.i id,.a (zz fs)] (q9f _ _) Tryz.func196 rfl rfl (fun _=>rfl) rfl fun S0=>?_
 have h1:=fun st=>qi8 l id st hl
 have hmi:(l.ents.map entA).length=l.ents.length:=by simp
 have h2:=fun st=>qh0 fs st hK (by omega)
 unfold y7 rlR
 rcases qhd l id with h | ⟨i,e,h,he,hid,hid1⟩
 ·rw [h] at h1 ⊢
  rw [if_pos (by decide)]
  apply qd []
  repeat' (first|apply And.intro|(intro h;try exact cDd)|exact⟨Tryz.call234⟩|refine cpe h1 ?_|exact cSd|apply qa []|refine exr ?_|refine qh ?_)
 ·rw [h] at h1 ⊢
  rw [if_neg (by omega)]
  have hil:=lt_of_getElem? he
  by_cases hc:jl fs = .no
  ·rw [hc] at h2
   obtain⟨_,g3,g4⟩:=qeh hc
   have h3:=fun st=>qn2 fs st (qwi g3 g4)
   rw [if_pos hc]
   unfold qm3 qb2
   rw [if_pos hc,Int.toNat_natCast,he]
   simp only
   have hx':∀ k e',l.ents[k]? = some e'→(l.ents.set i ⟨⟨3,zx fs,fs⟩,e.id⟩).take (k+1)=(l.ents.set i ⟨⟨3,zx fs,fs⟩,e.id⟩).take k++[if k=i then⟨⟨3,zx fs,fs⟩,e.id⟩ else e']:=fun k e' h=>by
    have hk:=lt_of_getElem? h
    rw [List.take_add_one]
    congr 1
    by_cases hki:k=i
    ·subst hki
     rw [if_pos rfl,List.getElem?_set_self hk]
     try rfl
    ·rw [if_neg hki,List.getElem?_set_ne (fun h=>hki h.symm),h]
     rfl
   have hsl:(l.ents.set i ⟨⟨3,zx fs,fs⟩,e.id⟩).length=l.ents.length:=by simp
   generalize l.ents.set i ⟨⟨3,zx fs,fs⟩,e.id⟩=es' at hx' hsl
   apply qd []
   repeat' (first|apply And.intro|(intro h;try exact cDd)|exact⟨Tryz.call234⟩|refine cpe h1 ?_|exact⟨Tryz.call224⟩|refine cpe h2 ?_|exact cSd|apply qa []|refine exr ?_|refine qh ?_)
   refine zq (X:=Nat) (fun k=>⟨[(2,.a (zz fs)),(3,.a (.pp [qbo l.ents,Iv l.next])),(6,.bx 0 0),(9,.i i),(12,.bx 1 0),(13,.i k)],[(0,some (.cells 35 [.a zh,.i 0])),(1,some (.cells 35 [.tp 2,.i l.next])),(2,some (.tip 4 162 ((es'.take k).map entA)))],3⟩)
    (fun k=>k≤l.ents.length) (fun k=>l.ents.length - k) 0 (by omega) ?_ ?_
   ·skip
    repeat' (first|apply And.intro|(intro h;try exact cDd)|exact cSd|apply qa []|refine exr ?_|refine qh ?_)
    all_goals first|rfl|(simp;done)
   ·rintro k hk
    by_cases hkn:k<l.ents.length
    ·have hx:l.ents[k]? = some l.ents[k]:=List.getElem?_eq_getElem hkn
     have hxm:(l.ents.map entA)[k]? = some (entA l.ents[k]):=by rw [List.getElem?_map,hx];rfl
     have htk:=hx' k _ hx
     have htl:((es'.take k).map entA).length≤k:=by simp;omega
     by_cases hki:k=i
     ·have hee:l.ents[k]=e:=by
       have h1:=he
       rw [← hki,hx] at h1
       simpa using h1
      rw [hee] at hx hxm
      rw [if_pos hki] at htk
      apply qd []
      repeat' (first|apply And.intro|(intro h;try exact cDd)|(refine Exists.intro (k) ⟨by omega,_,hxm,?_⟩)|exact⟨Tryz.call235⟩|refine cpe h3 ?_|(refine Exists.intro (k+1) ⟨by omega,by omega,?_⟩)|exact absurd hki (by omega)|exact cSd|apply qa []|refine exr ?_|refine qh ?_)
      all_goals first|(rw [htk];simp;done)|omega|(simp;omega)
     ·rw [if_neg hki] at htk
      generalize l.ents[k]=e' at hx hxm htk
      apply qd []
      repeat' (first|apply And.intro|(intro h;try exact cDd)|(refine Exists.intro (k) ⟨by omega,_,hxm,?_⟩)|(refine Exists.intro (k+1) ⟨by omega,by omega,?_⟩)|exact absurd (by omega) hki|exact cSd|apply qa []|refine exr ?_|refine qh ?_)
      all_goals first|(rw [htk];simp;done)|omega|(simp;omega)
    ·have hkn:k=l.ents.length:=by omega
     subst hkn
     rw [List.take_of_length_le (by omega)]
     apply qd []
     repeat' (first|apply And.intro|(intro h;try exact cDd)|exact cSd|apply qa []|refine exr ?_|refine qh ?_)
  ·obtain⟨p,n,hp,hn,hn0⟩:=qp2 fs hc
   rw [hp,hn] at h2
   rw [if_neg hc,hp,hn]
   apply qd []
   repeat' (first|apply And.intro|(intro h;try exact cDd)|exact⟨Tryz.call234⟩|refine cpe h1 ?_|exact⟨Tryz.call224⟩|refine cpe h2 ?_|exact cSd|apply qa []|refine exr ?_|refine qh ?_)
theorem q2x (l:q7) (id:Int) (st:List AObj) (hl:l.ents.length<1000000):qm E 197 [kl l,Iv id] st fun r st'=>r = .tu [kl (delF l id).2,Iv (delF l id).1.code]∧st'=st:=by
 refine ze [.a (kl l),.i id] (kg (yw _) (qq _)) Tryz.func197 rfl rfl (fun _=>rfl) rfl fun S0=>?_
 have h1:=fun st=>qi8 l id st hl
 have hmi:(l.ents.map entA).length=l.ents.length:=by simp
 unfold delF
 rcases qhd l id with h | ⟨i,e,h,he,hid,hid1⟩
 ·rw [h] at h1 ⊢
  rw [if_pos (by decide)]
  apply qd []
  repeat' (first|apply And.intro|(intro h;try exact cDd)|exact⟨Tryz.call234⟩|refine cpe h1 ?_|exact cSd|apply qa []|refine exr ?_|refine qh ?_)
 ·rw [h] at h1 ⊢
  rw [if_neg (by omega),Int.toNat_natCast]
  unfold delL
  simp only
  have hend:dlF i l.ents l.ents.length=l.ents.take i++l.ents.drop (i+1):=by unfold dlF;rw [List.take_length]
  have hll:∀ k,k≤l.ents.length→((dlF i l.ents k).map entA).length≤k:=fun k hk=>by
   simp [dlF]
   omega
  rw [← hend]
  apply qd []
  repeat' (first|apply And.intro|(intro h;try exact cDd)|exact⟨Tryz.call234⟩|refine cpe h1 ?_|exact cSd|apply qa []|refine exr ?_|refine qh ?_)
  refine zq (X:=Nat) (fun k=>⟨[(2,.a (.pp [qbo l.ents,Iv l.next])),(4,.bx 0 0),(6,.i i),(7,.bx 1 0),(8,.i k)],[(0,some (.cells 35 [.a zh,.i 0])),(1,some (.cells 35 [.tp 2,.i l.next])),(2,some (.tip 4 162 ((dlF i l.ents k).map entA)))],3⟩)
   (fun k=>k≤l.ents.length) (fun k=>l.ents.length - k) 0 (by omega) ?_ ?_
  ·skip
   repeat' (first|apply And.intro|(intro h;try exact cDd)|exact cSd|apply qa []|refine exr ?_|refine qh ?_)
   all_goals first|rfl|(simp [dlF];done)|(simp [dlF];rfl)
  ·rintro k hk
   by_cases hkn:k<l.ents.length
   ·have hx:l.ents[k]? = some l.ents[k]:=List.getElem?_eq_getElem hkn
    have hxm:(l.ents.map entA)[k]? = some (entA l.ents[k]):=by rw [List.getElem?_map,hx];rfl
    have htk:=zcw (i:=i) hx
    have htl:=hll k hk
    rw [List.length_map] at htl
    generalize l.ents[k]=e' at hx hxm htk
    by_cases hki:k=i
    ·rw [if_pos hki,List.append_nil] at htk
     apply qd []
     repeat' (first|apply And.intro|(intro h;try exact cDd)|(refine Exists.intro (k+1) ⟨by omega,by omega,?_⟩)|exact absurd hki (by omega)|exact cSd|apply qa []|refine exr ?_|refine qh ?_)
     all_goals first|(rw [htk];done)|omega|(simp;omega)
    ·rw [if_neg hki] at htk
     apply qd []
     repeat' (first|apply And.intro|(intro h;try exact cDd)|(refine Exists.intro (k) ⟨by omega,_,hxm,?_⟩)|(refine Exists.intro (k+1) ⟨by omega,by omega,?_⟩)|exact absurd (by omega) hki|exact cSd|apply qa []|refine exr ?_|refine qh ?_)
     all_goals first|(rw [htk];simp;done)|omega|(simp;omega)
   ·have hkn:k=l.ents.length:=by omega
    subst hkn
    apply qd []
    repeat' (first|apply And.intro|(intro h;try exact cDd)|exact cSd|apply qa []|refine exr ?_|refine qh ?_)
def rlR4 (l:q7) (n:Int) (e:ErrV):AV:=.tu [kl l,Iv n,Iv e.pos,Iv e.code]
theorem q50 (l:q7) (n:Int) (e:ErrV):Pure (rlR4 l n e):=qku (yw _) (qq _) (qq _) (qq _)
set_option maxHeartbeats 4000000 in
theorem q2y (l:q7) (id:Int) (fs:List Fld) (st:List AObj) (hl:l.ents.length<1000000) (hn:1≤l.next∧l.next<1000000) (hM:l.many=cntF l.ents) (hK:KeyB fs) (hfl:fs.length<1000000):qm E 198 [kl l,Iv id,zz fs] st fun r st'=>r=rlR4 (insF l id fs).2.2 (insF l id fs).1 (insF l id fs).2.1∧st'=st:=by
 refine ze [.a (kl l),.i id,.a (zz fs)] (q50 _ _ _) Tryz.func198 rfl rfl (fun _=>rfl) rfl fun S0=>?_
 have h1:=fun st=>qi8 l id st hl
 have hmi:(l.ents.map entA).length=l.ents.length:=by simp
 have h2:=fun st=>qh0 fs st hK (by omega)
 have h3:=fun st=>q2z l st hl
 unfold insF rlR4
 rw [hM]
 rcases Decidable.em (atF l id<0∧id≠0) with hb|hb
 ·rw [if_pos hb]
  obtain⟨hb1,hb2⟩:=hb
  generalize atF l id=a at hb1 h1
  apply qd []
  repeat' (first|apply And.intro|(intro h;try exact cDd)|exact⟨Tryz.call234⟩|refine cpe h1 ?_|exact cSd|apply qa []|refine exr ?_|refine qh ?_)
 ·rw [if_neg hb]
  obtain⟨a,j,ha,hj,hjl,hor⟩:∃ (a:Int) (j:Nat),atF l id=a∧a+1=(j:Int)∧j≤l.ents.length∧(0≤a∨a = -1∧id=0):=by
   rcases qhd l id with h | ⟨i,e,h,he,_⟩
   ·exact⟨-1,0,h,rfl,by omega,.inr ⟨rfl,Decidable.not_not.1 fun h0=>hb ⟨by omega,h0⟩⟩⟩
   ·have:=lt_of_getElem? he
    exact⟨i,i+1,h,rfl,by omega,.inl (by omega)⟩
  rw [ha] at h1 hb ⊢
  rw [hj,Int.toNat_natCast]
  by_cases hc:jl fs = .no
  ·rw [hc] at h2
   rw [if_pos hc]
   by_cases hm:400≤(cntF l.ents:Int)
   ·rw [if_pos hm]
    generalize cntF l.ents=m at h3 hm
    rcases hor with hor | ⟨hor,hor2⟩
    ·apply qd []
     repeat' (first|apply And.intro|(intro h;try exact cDd)|exact⟨Tryz.call234⟩|refine cpe h1 ?_|exact⟨Tryz.call224⟩|refine cpe h2 ?_|exact⟨Tryz.call91⟩|refine cpe h3 ?_|exact cSd|apply qa []|refine exr ?_|refine qh ?_)
    ·apply qd []
     repeat' (first|apply And.intro|(intro h;try exact cDd)|exact⟨Tryz.call234⟩|refine cpe h1 ?_|exact⟨Tryz.call224⟩|refine cpe h2 ?_|exact⟨Tryz.call91⟩|refine cpe h3 ?_|exact cSd|apply qa []|refine exr ?_|refine qh ?_)
   ·rw [if_neg hm]
    generalize cntF l.ents=m at h3 hm
    obtain⟨_,g3,g4⟩:=qeh hc
    have h4:=fun st=>qn2 fs st (qwi g3 g4)
    unfold insL qb2
    rw [if_pos hc]
    simp only
    have hend:inF j ⟨⟨3,zx fs,fs⟩,l.next⟩ l.ents l.ents.length=l.ents.take j++⟨⟨3,zx fs,fs⟩,l.next⟩::l.ents.drop j:=by
     unfold inF
     rw [List.take_length,if_pos hjl]
    have hll:∀ k,k≤l.ents.length→((inF j ⟨⟨3,zx fs,fs⟩,l.next⟩ l.ents k).map entA).length≤k+1:=fun k hk=>by
     unfold inF
     split
     ·simp
      omega
     ·simp
      omega
    rw [← hend]
    have h0:0≤a→inF j ⟨⟨3,zx fs,fs⟩,l.next⟩ l.ents 0=[]:=fun h=>by
     unfold inF
     rw [if_neg (by omega)]
     simp
    have h00:a = -1→inF j ⟨⟨3,zx fs,fs⟩,l.next⟩ l.ents 0=[⟨⟨3,zx fs,fs⟩,l.next⟩]:=fun h=>by
     unfold inF
     rw [if_pos (by omega)]
     simp
    have hst:=fun k e'=>zc4 (j:=j) (x:=⟨⟨3,zx fs,fs⟩,l.next⟩) (es:=l.ents) (k:=k) (e:=e')
    generalize inF j ⟨⟨3,zx fs,fs⟩,l.next⟩ l.ents=iF at hll h0 h00 hst
    rcases hor with hor | ⟨hor,hor2⟩
    ·have h0:=h0 hor
     clear h00
     apply qd []
     repeat' (first|apply And.intro|(intro h;try exact cDd)|exact⟨Tryz.call234⟩|refine cpe h1 ?_|exact⟨Tryz.call224⟩|refine cpe h2 ?_|exact⟨Tryz.call91⟩|refine cpe h3 ?_|exact⟨Tryz.call235⟩|refine cpe h4 ?_|exact cSd|apply qa []|refine exr ?_|refine qh ?_)
     refine zq (X:=Nat) (fun k=>⟨[(3,.a (.pp [qbo l.ents,Iv l.next])),(6,.bx 0 0),(10,.i a),(13,.bx 1 0),(14,.bx 2 0),(15,.i k)],[(0,some (.cells 35 [.a zh,.i 0])),(1,some (.cells 35 [.tp 3,.i (l.next+1)])),(2,some (.cells 162 [.i 3,.s (zx fs),.a (zz fs),.i l.next])),(3,some (.tip 4 162 ((iF k).map entA)))],4⟩)
      (fun k=>k≤l.ents.length) (fun k=>l.ents.length - k) 0 (by omega) ?_ ?_
     ·skip
      repeat' (first|apply And.intro|(intro h;try exact cDd)|exact cSd|apply qa []|refine exr ?_|refine qh ?_)
      all_goals first|rfl|(simp [h0];done)|(simp [h0];rfl)
     ·rintro k hk
      by_cases hkn:k<l.ents.length
      ·have hx:l.ents[k]? = some l.ents[k]:=List.getElem?_eq_getElem hkn
       have hxm:(l.ents.map entA)[k]? = some (entA l.ents[k]):=by rw [List.getElem?_map,hx];rfl
       have htk:=hst k _ hx
       have htl:=hll k hk
       rw [List.length_map] at htl
       generalize l.ents[k]=e' at hx hxm htk
       by_cases hki:j=k+1
       ·rw [if_pos hki] at htk
        apply qd []
        repeat' (first|apply And.intro|(intro h;try exact cDd)|(refine Exists.intro (k) ⟨by omega,_,hxm,?_⟩)|(refine Exists.intro (k+1) ⟨by omega,by omega,?_⟩)|exact absurd hki (by omega)|exact cSd|apply qa []|refine exr ?_|refine qh ?_)
        all_goals first|(rw [htk];simp;done)|omega|(simp;omega)
       ·rw [if_neg hki] at htk
        apply qd []
        repeat' (first|apply And.intro|(intro h;try exact cDd)|(refine Exists.intro (k) ⟨by omega,_,hxm,?_⟩)|(refine Exists.intro (k+1) ⟨by omega,by omega,?_⟩)|exact absurd (by omega) hki|exact cSd|apply qa []|refine exr ?_|refine qh ?_)
        all_goals first|(rw [htk];simp;done)|omega|(simp;omega)
      ·have hkn:k=l.ents.length:=by omega
       subst hkn
       apply qd []
       repeat' (first|apply And.intro|(intro h;try exact cDd)|exact cSd|apply qa []|refine exr ?_|refine qh ?_)
    ·have hz:=h00 hor
     clear h00 h0
     subst hor
     apply qd []
     repeat' (first|apply And.intro|(intro h;try exact cDd)|exact⟨Tryz.call234⟩|refine cpe h1 ?_|exact⟨Tryz.call224⟩|refine cpe h2 ?_|exact⟨Tryz.call91⟩|refine cpe h3 ?_|exact⟨Tryz.call235⟩|refine cpe h4 ?_|exact cSd|apply qa []|refine exr ?_|refine qh ?_)
     refine zq (X:=Nat) (fun k=>⟨[(3,.a (.pp [qbo l.ents,Iv l.next])),(6,.bx 0 0),(10,.i (-1)),(13,.bx 1 0),(14,.bx 2 0),(15,.i k)],[(0,some (.cells 35 [.a zh,.i 0])),(1,some (.cells 35 [.tp 3,.i (l.next+1)])),(2,some (.cells 162 [.i 3,.s (zx fs),.a (zz fs),.i l.next])),(3,some (.tip 4 162 ((iF k).map entA)))],4⟩)
      (fun k=>k≤l.ents.length) (fun k=>l.ents.length - k) 0 (by omega) ?_ ?_
     ·skip
      repeat' (first|apply And.intro|(intro h;try exact cDd)|exact cSd|apply qa []|refine exr ?_|refine qh ?_)
      all_goals first|rfl|(simp [hz];done)|(simp [hz];rfl)
     ·rintro k hk
      by_cases hkn:k<l.ents.length
      ·have hx:l.ents[k]? = some l.ents[k]:=List.getElem?_eq_getElem hkn
       have hxm:(l.ents.map entA)[k]? = some (entA l.ents[k]):=by rw [List.getElem?_map,hx];rfl
       have htk:=hst k _ hx
       have htl:=hll k hk
       rw [List.length_map] at htl
       generalize l.ents[k]=e' at hx hxm htk
       rw [if_neg (by omega)] at htk
       apply qd []
       repeat' (first|apply And.intro|(intro h;try exact cDd)|(refine Exists.intro (k) ⟨by omega,_,hxm,?_⟩)|(refine Exists.intro (k+1) ⟨by omega,by omega,?_⟩)|exact cSd|apply qa []|refine exr ?_|refine qh ?_)
       all_goals first|(rw [htk];simp;done)|omega|(simp;omega)
      ·have hkn:k=l.ents.length:=by omega
       subst hkn
       apply qd []
       repeat' (first|apply And.intro|(intro h;try exact cDd)|exact cSd|apply qa []|refine exr ?_|refine qh ?_)
  ·obtain⟨p,n,hp,hn,hn0⟩:=qp2 fs hc
   rw [hp,hn] at h2
   rw [if_neg hc,hp,hn]
   rcases hor with hor | ⟨hor,hor2⟩
   ·apply qd []
    repeat' (first|apply And.intro|(intro h;try exact cDd)|exact⟨Tryz.call234⟩|refine cpe h1 ?_|exact⟨Tryz.call224⟩|refine cpe h2 ?_|exact cSd|apply qa []|refine exr ?_|refine qh ?_)
   ·apply qd []
    repeat' (first|apply And.intro|(intro h;try exact cDd)|exact⟨Tryz.call234⟩|refine cpe h1 ?_|exact⟨Tryz.call224⟩|refine cpe h2 ?_|exact cSd|apply qa []|refine exr ?_|refine qh ?_)
end Go.Proofs.YtmoklbacdkmkaaaGreatDoor
namespace Go.Pl
open Go Go.Proofs Go.Av
def LM (l:q7):Prop:=l.many=cntF l.ents
theorem qe0 (a b:List EntV):cntF (a++b)=cntF a+cntF b:=by simp [cntF]
theorem qij (e:EntV) (b:List EntV):cntF (e::b)=(if 0<e.id then 1 else 0)+cntF b:=by
 by_cases h:0<e.id <;> simp [cntF,h] <;> omega
theorem q4a {l:List EntV} {i:Nat} {e:EntV} (h:l[i]? = some e):l=l.take i++e::l.drop (i+1):=by
 obtain⟨hi,rfl⟩:=List.getElem?_eq_some_iff.1 h
 rw [← List.drop_eq_getElem_cons hi,List.take_append_drop]
theorem q9d {l:q7} (h:LM l) (id:Int) (fs:List Fld):LM (y7 l id fs).2:=by
 unfold y7
 split
 ·exact h
 ·split
  ·unfold qm3
   split
   ·rename_i e he
    unfold LM at h ⊢
    simp only
    rw [h]
    have h1:=q4a he
    have hi:=lt_of_getElem? he
    rw [List.set_eq_take_append_cons_drop,if_pos hi]
    conv=>lhs;rw [h1]
    rw [qe0,qe0,qij,qij]
   ·exact h
  ·exact h
theorem zax {l:q7} (h:LM l) (id:Int):LM (delF l id).2:=by
 unfold delF
 split
 ·exact h
 ·rename_i hn
  rcases qhd l id with g | ⟨i,e,g,he,hid,hid1⟩
  ·exact absurd (by rw [g];decide) hn
  ·rw [g,Int.toNat_natCast]
   unfold LM delL at *
   simp only
   rw [h]
   have h1:=q4a he
   conv=>lhs;rw [h1]
   rw [qe0,qe0,qij,if_pos (by omega)]
   omega
theorem zbc {l:q7} (h:LM l) (hn:1≤l.next) (id:Int) (fs:List Fld):LM (insF l id fs).2.2:=by
 unfold insF
 split
 ·exact h
 ·split
  ·split
   ·exact h
   ·unfold LM insL at *
    simp only
    rw [h,qe0,qij,if_pos (by simp only;omega)]
    conv=>lhs;rw [← List.take_append_drop (atF l id+1).toNat l.ents]
    rw [qe0]
    omega
  ·exact h
theorem qxc:∀ (its:List zm) (l:q7),LM l→1≤l.next→LM (its.foldl qax l)∧1≤(its.foldl qax l).next
 | [],l,h,hn=>⟨h,hn⟩
 |x::r,l,h,hn=>by
  rw [List.foldl_cons]
  unfold qax
  split
  ·refine qxc r _ ?_ (by simp only;omega)
   unfold LM at *
   simp only
   rw [qlx,if_pos (by simp only;omega),h]
   omega
  ·refine qxc r _ ?_ hn
   unfold LM at *
   simp only
   rw [qlx,if_neg (by simp),h]
   omega
theorem q49 (its:List zm):LM (ofF its):=(qxc its ⟨[],1,0⟩ (by simp [LM,cntF]) (by decide)).1
end Go.Pl
namespace Go.Proofs.YtmoklbacdkmkaaaGreatDoor
open Go Go.Av Go.RowKit Go.Proofs Go.Pl
theorem q0k {l:q7} (h:LM l) (hn:1≤l.next) (x:qu):LM (oneF l x).2.2:=by
 unfold oneF
 split
 ·exact q9d h _ _
 ·split
  ·exact zax h _
  ·exact zbc h hn _ _
theorem qs9:∀ (b:List qu) (k n:Nat) (l:q7) (ids:List Int),LM l→LB n l→n+b.length<900000→LM (wh k b l ids).2.1
 | [],k,n,l,ids,h,_,_=>h
 |x::r,k,n,l,ids,h,hB,hs=>by
  simp only [List.length_cons] at hs
  unfold wh
  split
  ·exact qs9 r (k+1) (n+1) _ _ (q0k h hB.nx0 x) (qm1 hB (by omega) x) (by omega)
  ·exact h
theorem q4e {n:Nat} {l:q7} (h:LM l) (hB:LB n l) (hs:n+40<900000) (b:List qu):LM (doF l b).2.1:=by
 unfold doF
 split
 ·rename_i he
  obtain⟨h1,h2,_⟩:=qe1 he
  exact qs9 b 0 n l [] h hB (by omega)
 ·exact h
theorem q20 (n:Nat) (l:q7) (x:qu) (st:List AObj) (hB:LB n l) (hM:LM l) (hK:KeyB x.fields) (hl:x.fields.length<1000000):qm E 147 [kl l,j6 x] st fun r st'=>r = .tu [kl (oneF l x).2.2,Iv (oneF l x).1,Iv (oneF l x).2.1.code]∧st'=st:=by
 refine ze [.a (kl l),.a (j6 x)] (qa8 (yw _) (qq _) (qq _)) Tryz.func147 rfl rfl (fun _=>rfl) rfl fun S0=>?_
 have g1:=hB.len;have g2:=hB.nx0;have g3:=hB.nx1;have g4:=hB.small
 unfold oneF
 by_cases h1:x.kind=1
 ·rw [if_pos h1]
  have hc:=fun st=>qzm l x.id x.fields st (by omega) hK hl
  unfold rlR at hc
  generalize y7 l x.id x.fields=r at hc
  apply qd []
  repeat' (first|apply And.intro|(intro h;try exact cDd)|exact⟨Tryz.call196⟩|refine cpe hc ?_|exact cSd|apply qa []|refine exr ?_|refine qh ?_)
 ·rw [if_neg h1]
  by_cases h2:x.kind=2
  ·rw [if_pos h2]
   have hc:=fun st=>q2x l x.id st (by omega)
   generalize delF l x.id=r at hc
   apply qd []
   repeat' (first|apply And.intro|(intro h;try exact cDd)|exact⟨Tryz.call197⟩|refine cpe hc ?_|exact cSd|apply qa []|refine exr ?_|refine qh ?_)
  ·rw [if_neg h2]
   have hc:=fun st=>q2y l x.id x.fields st (by omega) ⟨by omega,by omega⟩ hM hK hl
   unfold rlR4 at hc
   generalize insF l x.id x.fields=r at hc
   apply qd []
   repeat' (first|apply And.intro|(intro h;try exact cDd)|exact⟨Tryz.call198⟩|refine cpe hc ?_|exact cSd|apply qa []|refine exr ?_|refine qh ?_)
def doR (l:q7) (r:ErrV×q7×List Int):AV:=if r.1 = .no then .tu [kl r.2.1,ku r.2.2,Iv (-9),Iv 0] else .tu [kl l,ku [],Iv r.1.pos,Iv r.1.code]
theorem q7q (l:q7) (r:ErrV×q7×List Int):Pure (doR l r):=by
 unfold doR
 split
 ·exact qku (yw _) (qbu _) (qq _) (qq _)
 ·exact qku (yw _) (qbu _) (qq _) (qq _)
theorem q5x (n:Nat) (l:q7) (b:List qu) (st:List AObj) (hB:LB n l) (hM:LM l) (hn:n+40<900000) (hE:∀ x∈b,EdB x) (hl:b.length<1000000):qm E 83 [kl l,zj b] st fun r st'=>r=doR l (doF l b)∧st'=st:=by
 refine ze [.a (kl l),.a (zj b)] (q7q _ _) Tryz.func83 rfl rfl (fun _=>rfl) rfl fun S0=>?_
 have hck:=fun st=>qxr b st hE (by omega)
 have hmi:(b.map j6).length=b.length:=by simp
 unfold doF
 by_cases he:eErr b = .no
 ·rw [he] at hck
  rw [if_pos he]
  obtain⟨hb1,hb40,hg⟩:=qe1 he
  apply qd []
  repeat' (first|apply And.intro|(intro h;try exact cDd)|exact⟨Tryz.call124⟩|refine cpe hck ?_|exact cSd|apply qa []|refine exr ?_|refine qh ?_)
  refine zq (X:=Nat×q7×List Int) (fun (k,q,ids)=>⟨[(1,.a (zj b)),(2,.a (.pp [qbo l.ents,Iv l.next])),(4,.bx 0 0),(10,.bx 1 0),(11,.tp 2),(12,.i k)],[(0,some (.cells 35 [.a zh,.i 0])),(1,some (.cells 35 [.a (qbo q.ents),.i q.next])),(2,some (.tip 1 3 (ids.map fun x=>Iv x)))],3⟩)
   (fun (k,q,ids)=>k≤b.length∧LB (n+k) q∧LM q∧ids.length≤k∧wh k (b.drop k) q ids=wh 0 b l []) (fun (k,q,ids)=>b.length - k) (0,l,[]) ⟨by omega,hB,hM,by simp,rfl⟩ ?_ ?_
  ·skip
   repeat' (first|apply And.intro|(intro h;try exact cDd)|exact cSd|apply qa []|refine exr ?_|refine qh ?_)
   all_goals first|rfl|(simp;done)
  ·rintro⟨k,q,ids⟩ ⟨hk,hq,hqm,hil,hrun⟩
   by_cases hkn:k<b.length
   ·have hx:b[k]? = some b[k]:=List.getElem?_eq_getElem hkn
    have hxm:(b.map j6)[k]? = some (j6 b[k]):=by rw [List.getElem?_map,hx];rfl
    have hxE:=hE b[k] (List.getElem_mem hkn)
    have hxf:=(qjl (hg b[k] (List.getElem_mem hkn))).1
    rw [List.drop_eq_getElem_cons hkn,wh] at hrun
    have hidl:(ids.map fun x=>Iv x).length=ids.length:=by simp
    generalize b[k]=x at hx hxm hxE hxf hrun
    have hon:=fun st=>q20 (n+k) q x st hq hqm hxE.keys (by omega)
    have hlb:=qm1 hq (by omega) x
    have hlm:=q0k hqm hq.nx0 x
    have hcd:=fun h=>qmg (l:=q) (x:=x) h
    generalize oneF q x=o at hon hlb hlm hcd hrun
    obtain⟨id,e,q'⟩:=o
    dsimp only at hon hlb hlm hcd hrun
    by_cases hen:e = .no
    ·subst hen
     rw [if_pos rfl] at hrun
     by_cases h0:0<id
     ·rw [if_pos h0] at hrun
      apply qd []
      repeat' (first|apply And.intro|(intro h;try exact cDd)|(refine Exists.intro (k) ⟨by omega,_,hxm,?_⟩)|exact⟨Tryz.call147⟩|refine cpe hon ?_|(refine Exists.intro (k+1,q',ids++[id]) ⟨⟨by omega,hlb,hlm,by simp;omega,hrun⟩,by simp only;omega,?_⟩)|exact cSd|apply qa []|refine exr ?_|refine qh ?_)
      all_goals first|(simp;done)|(simp;omega)
     ·rw [if_neg h0] at hrun
      apply qd []
      repeat' (first|apply And.intro|(intro h;try exact cDd)|(refine Exists.intro (k) ⟨by omega,_,hxm,?_⟩)|exact⟨Tryz.call147⟩|refine cpe hon ?_|(refine Exists.intro (k+1,q',ids) ⟨⟨by omega,hlb,hlm,by first|omega|(simp only;omega),hrun⟩,by simp only;omega,?_⟩)|exact cSd|apply qa []|refine exr ?_|refine qh ?_)
      all_goals first|(simp;done)|(simp;omega)
    ·rw [if_neg hen] at hrun
     rw [← hrun]
     have hcd:=hcd hen
     have hA:doR l (ErrV.at' (↑k) e.code,q,ids) = .tu [kl l,ku [],Iv k,Iv e.code]:=by
      unfold doR
      rw [if_neg (by simp)]
      try rfl
     rw [hA]
     generalize ErrV.code e=c at hon hcd
     apply qd []
     repeat' (first|apply And.intro|(intro h;try exact cDd)|(refine Exists.intro (k) ⟨by omega,_,hxm,?_⟩)|exact⟨Tryz.call147⟩|refine cpe hon ?_|exact cSd|apply qa []|refine exr ?_|refine qh ?_)
   ·have hkn:k=b.length:=by omega
    subst hkn
    rw [List.drop_length,wh] at hrun
    rw [← hrun]
    unfold doR
    rw [if_pos rfl]
    apply qd []
    repeat' (first|apply And.intro|(intro h;try exact cDd)|exact cSd|apply qa []|refine exr ?_|refine qh ?_)
 ·obtain⟨p,m,hp,hm,h0⟩:=za1 b
  have hz:m≠0:=fun h=>he (h0.1 h)
  rw [if_neg he]
  unfold doR
  simp only
  rw [if_neg he]
  rw [hp,hm] at hck ⊢
  apply qd []
  repeat' (first|apply And.intro|(intro h;try exact cDd)|exact⟨Tryz.call124⟩|refine cpe hck ?_|exact cSd|apply qa []|refine exr ?_|refine qh ?_)
end Go.Proofs.YtmoklbacdkmkaaaGreatDoor
namespace Go.Pl
open Go Go.Proofs Go.Proofs.YtmoklbacdkmkaaaGreatDoor
theorem qq8 (x:zm) (r:List zm):vh (x::r)=x.raw++vh r:=by simp [vh]
theorem q85 {its:List zm} {x:zm} (h:x∈its):x.raw.length≤(vh its).length:=by
 induction its with
 |nil=>simp at h
 |cons y r ih=>
  rw [qq8,List.length_append]
  rcases List.mem_cons.1 h with rfl|h
  ·omega
  ·have:=ih h
   omega
structure PR (m:Nat) (p:PSt):Prop where
 tot:(vh p.items).length+(zi p.block).length≤m
 fl:∀ x∈p.items,x.fields.length<900000
theorem ql3 {m:Nat} {p:PSt} (h:PR m p):PR m (jr p).2:=by
 unfold jr
 split
 ·exact h
 ·split
  ·exact h
  ·split
   ·exact h
   ·exact⟨h.tot,h.fl⟩
theorem q38 {m:Nat} {p:PSt} (h:PR m p) (hf:p.fields.length<900000):PR m (xy p):=by
 have ht:=h.tot
 unfold xy
 split
 ·exact⟨by simp only [zi,List.flatMap_nil,List.length_nil];omega,h.fl⟩
 ·refine⟨?_,fun x hx=>?_⟩
  ·simp only [qaz,qbj,List.length_append]
   simp only [zi,List.flatMap_nil,List.length_nil] at ht ⊢
   omega
  ·simp only [List.mem_append,List.mem_singleton] at hx
   rcases hx with hx|rfl
   ·exact h.fl x hx
   ·exact hf
theorem qr6 {m n:Nat} {p:PSt} (h:PR m p) (hB:PB n p) (hs:n+1<900000):PR m (endP p).2:=by
 unfold endP
 split
 ·exact h
 ·have:=(qfv hB hs).fields
  exact q38 (ql3 h) (by omega)
theorem q3j {m n:Nat} {p:PSt} {no:Int} {text:qb} {ended:Bool} {kind:Int} (h:PR m p) (hB:PB n p) (hs:n+1<900000):PR m (jn p no text ended kind).2:=by
 unfold jn
 split
 ·split
  ·exact h
  ·split
   ·exact⟨h.tot,h.fl⟩
   ·exact ql3 ⟨h.tot,h.fl⟩
 ·split
  ·exact qr6 h hB hs
  ·exact ql3 h
theorem xg (a b:List qb):zi (a++b)=zi a++zi b:=by simp [zi]
theorem q9q {m n:Nat} {p:PSt} {no:Int} {text:qb} {ended:Bool} (h:PR m p) (hB:PB n p) (hs:n+1<900000):PR (m+text.length+1) (wq p no text ended).2:=by
 have more:∀ {q:PSt},PR m q→PR (m+text.length+1) q:=fun h=>⟨by have:=h.tot;omega,h.fl⟩
 have h2:PR m (jn p no text ended (qw text)).2:=q3j h hB hs
 have ht:=h2.tot
 unfold wq
 split
 ·exact more h
 ·split
  ·exact more h
  ·split
   ·refine⟨?_,fun x hx=>?_⟩
    ·simp only [qaz,qbj,List.length_append,List.length_cons,List.length_nil]
     omega
    ·simp only [List.mem_append,List.mem_singleton] at hx
     rcases hx with hx|rfl
     ·exact h2.fl x hx
     ·simp
   ·split
    ·refine⟨?_,h2.fl⟩
     simp only [ve,xg,List.length_append]
     simp only [zi,List.flatMap_cons,List.flatMap_nil,List.length_append,List.length_cons,List.length_nil] at ht ⊢
     omega
    ·refine⟨?_,h2.fl⟩
     simp only [xg,List.length_append]
     simp only [zi,List.flatMap_cons,List.flatMap_nil,List.length_append,List.length_cons,List.length_nil] at ht ⊢
     omega
theorem zb1:∀ (n:Nat) (rest:qb) (k m:Nat) (p:PSt),rest.length≤n→PB (4 * k) p→PR m p→k+rest.length≤60000→PR (m+2 * rest.length) (runL k (zl rest) p).2:=by
 intro n
 induction n with
 |zero=>
  intro rest k m p hr hB hR hk
  obtain rfl:rest=[]:=List.eq_nil_of_length_eq_zero (by omega)
  rw [vq,runL]
  exact qr6 hR hB (by omega)
 |succ n ih=>
  intro rest k m p hr hB hR hk
  by_cases hne:rest=[]
  ·subst hne
   rw [vq,runL]
   exact qr6 hR hB (by omega)
  ·have hu:=j8 10 rest
   have hpl:=j9 10 rest
   have hr0:0<rest.length:=List.length_pos_iff.2 hne
   rw [v7 hne]
   simp only [runL]
   have hB2:=qo4 (no:=k) (text:=upto 10 rest) (ended:=decide (10∈rest)) hB (by omega) (by omega)
   have hR2:=q9q (no:=k) (text:=upto 10 rest) (ended:=decide (10∈rest)) hR hB (by omega)
   split
   ·exact⟨by have:=hR.tot;simp only;omega,hR.fl⟩
   ·have:=ih (past 10 rest) (k+1) _ _ (by omega) hB2 hR2 (by omega)
    exact⟨by have:=this.tot;omega,this.fl⟩
theorem zbd (text:qb):(vh (itsE text)).length≤120000∧∀ x∈itsE text,x.fields.length<900000:=by
 unfold itsE
 split
 ·simp [vh]
 ·have h:=zb1 text.length text 0 0 p0 (Nat.le_refl _) q2l ⟨by simp [p0,vh,zi],by simp [p0]⟩ (by omega)
  unfold jv
  split
  ·simp [vh]
  ·have:=h.tot
   exact⟨by simp only;omega,h.fl⟩
def LI (l:q7):Prop:=∀ e∈l.ents,e.x.raw.length≤1000000∧e.x.fields.length<900000
theorem q5b:∀ (its:List zm) (l:q7),LI l→(∀ x∈its,x.raw.length≤1000000∧x.fields.length<900000)→LI (its.foldl qax l)
 | [],l,h,_=>h
 |x::r,l,h,hx=>by
  rw [List.foldl_cons]
  refine q5b r _ ?_ fun y hy=>hx y (by simp [hy])
  have h1:=hx x (by simp)
  unfold qax
  split
  ·intro e he
   simp only [List.mem_append,List.mem_singleton] at he
   rcases he with he|rfl
   ·exact h e he
   ·exact h1
  ·intro e he
   simp only [List.mem_append,List.mem_singleton] at he
   rcases he with he|rfl
   ·exact h e he
   ·exact h1
theorem zdj (text:qb):LI (ofF (itsE text)):=by
 obtain⟨h1,h2⟩:=zbd text
 refine q5b _ _ (by simp [LI]) fun x hx=>⟨?_,h2 x hx⟩
 have:=q85 hx
 omega
theorem qtv (fs:List Fld):(qb2 fs).raw.length≤1000000∧(qb2 fs).fields.length<900000:=by
 unfold qb2
 split
 ·rename_i h
  obtain⟨_,g1,g2⟩:=qeh h
  have:=qfw fs g2
  exact⟨by simp only;omega,by simp only;omega⟩
 ·exact⟨by simp,by simp⟩
theorem q9c {l:q7} (h:LI l) (id:Int) (fs:List Fld):LI (y7 l id fs).2:=by
 unfold y7
 split
 ·exact h
 ·split
  ·unfold qm3
   split
   ·intro y hy
    rcases List.mem_or_eq_of_mem_set hy with hy|rfl
    ·exact h y hy
    ·exact qtv fs
   ·exact h
  ·exact h
theorem zaw {l:q7} (h:LI l) (id:Int):LI (delF l id).2:=by
 unfold delF
 split
 ·exact h
 ·intro y hy
  simp only [delL,List.mem_append] at hy
  rcases hy with hy|hy
  ·exact h y (List.mem_of_mem_take hy)
  ·exact h y (List.mem_of_mem_drop hy)
theorem zbb {l:q7} (h:LI l) (id:Int) (fs:List Fld):LI (insF l id fs).2.2:=by
 unfold insF
 split
 ·exact h
 ·split
  ·split
   ·exact h
   ·intro y hy
    simp only [insL,List.mem_append,List.mem_cons] at hy
    rcases hy with hy|rfl|hy
    ·exact h y (List.mem_of_mem_take hy)
    ·exact qtv fs
    ·exact h y (List.mem_of_mem_drop hy)
  ·exact h
theorem qpp:∀ (its:List zm) (b:Bool),(∀ x∈its,x.raw.length≤1000000)→(vh (wr b its)).length≤1000001 * its.length
 | [],b,h=>by simp [wr,vh]
 |x::r,b,h=>by
  have ih:=qpp r (decide (x.kind≠1)) fun y hy=>h y (by simp [hy])
  have hx:=h x (by simp)
  rw [wr,qaz,List.length_append]
  split
  ·rw [qq8,qbj]
   simp only [List.length_append,List.length_cons,List.length_nil]
   omega
  ·rw [qbj]
   simp only [List.length_cons]
   omega
theorem qk8 {n:Nat} {l:q7} (hB:LB n l) (h:LI l):(qm5 l).length≤1000000000000:=by
 have h1:=qpp (ke l) false fun x hx=>by
  obtain⟨e,he,rfl⟩:=List.mem_map.1 hx
  exact (h e he).1
 have h2:=hB.len
 have h3:=hB.small
 unfold qm5 qaj
 have:(ke l).length=l.ents.length:=by simp [ke]
 omega
end Go.Pl
namespace Go.Proofs.YtmoklbacdkmkaaaGreatDoor
open Go Go.Av Go.RowKit Go.Proofs Go.Pl
theorem zbs {l:q7} (h:LI l) (x:qu):LI (oneF l x).2.2:=by
 unfold oneF
 split
 ·exact q9c h _ _
 ·split
  ·exact zaw h _
  ·exact zbb h _ _
theorem qs8:∀ (b:List qu) (k:Nat) (l:q7) (ids:List Int),LI l→LI (wh k b l ids).2.1
 | [],k,l,ids,h=>h
 |x::r,k,l,ids,h=>by
  unfold wh
  split
  ·exact qs8 r (k+1) _ _ (zbs h x)
  ·exact h
theorem zcx {l:q7} (h:LI l) (b:List qu):LI (doF l b).2.1:=by
 unfold doF
 split
 ·exact qs8 b 0 l [] h
 ·exact h
theorem q0c {n:Nat} {l:q7} (hB:LB n l) (h:LI l):ItsB (ke l):=by
 have h1:=hB.len
 have h2:=hB.small
 refine⟨by simp [ke];omega,fun x hx=>?_⟩
 obtain⟨e,he,rfl⟩:=List.mem_map.1 hx
 have:=(h e he).2
 omega
theorem qzk (its:List zm) (st:List AObj) (hl:its.length<1000000000) (hr:(vh its).length≤1000000000000):qm E 94 [ji its] st fun r st'=>r=Sv (vh its)∧st'=st:=by
 refine ze [.a (ji its)] (qq _) Tryz.func94 rfl rfl (fun _=>rfl) rfl fun S0=>?_
 have hmi:(its.map z0).length=its.length:=by simp
 apply qd []
 repeat' (first|apply And.intro|(intro h;try exact cDd)|exact cSd|apply qa []|refine exr ?_|refine qh ?_)
 refine zq (X:=Nat) (fun k=>⟨[(0,.a (ji its)),(3,.s (vh (its.take k))),(4,.i k)],[],0⟩) (fun k=>k≤its.length) (fun k=>its.length - k) 0 (by omega) ?_ ?_
 ·skip
  repeat' (first|apply And.intro|(intro h;try exact cDd)|exact cSd|apply qa []|refine exr ?_|refine qh ?_)
  all_goals (simp [vh];done)
 ·rintro k hk
  by_cases hkn:k<its.length
  ·have hx:its[k]? = some its[k]:=List.getElem?_eq_getElem hkn
   have hxm:(its.map z0)[k]? = some (z0 its[k]):=by rw [List.getElem?_map,hx];rfl
   have htk:its.take (k+1)=its.take k++[its[k]]:=by rw [List.take_add_one,hx];rfl
   have hrl:(vh (its.take k)).length+its[k].raw.length≤1000000000000:=by
    have h1:vh its=vh (its.take (k+1))++vh (its.drop (k+1)):=by rw [← qaz,List.take_append_drop]
    rw [h1,htk,qaz,qbj] at hr
    simp only [List.length_append] at hr
    omega
   generalize its[k]=x at hx hxm htk hrl
   apply qd []
   repeat' (first|apply And.intro|(intro h;try exact cDd)|(refine Exists.intro (k) ⟨by omega,_,hxm,?_⟩)|(refine Exists.intro (k+1) ⟨by omega,by omega,?_⟩)|exact cSd|apply qa []|refine exr ?_|refine qh ?_)
   all_goals first|(rw [htk,qaz,qbj];done)|omega
  ·have hkn:k=its.length:=by omega
   subst hkn
   rw [List.take_length]
   apply qd []
   repeat' (first|apply And.intro|(intro h;try exact cDd)|exact cSd|apply qa []|refine exr ?_|refine qh ?_)
theorem qxp (its:List zm) (st:List AObj) (hl:its.length≤1000000):qm E 95 [ji its] st fun r st'=>r=ji (qaj its)∧st'=st:=by
 refine ze [.a (ji its)] (yb _) Tryz.func95 rfl rfl (fun _=>rfl) rfl fun S0=>?_
 have hmi:(its.map z0).length=its.length:=by simp
 apply qd []
 repeat' (first|apply And.intro|(intro h;try exact cDd)|exact cSd|apply qa []|refine exr ?_|refine qh ?_)
 refine zq (X:=Nat×List zm) (fun (k,out)=>⟨[(0,.a (ji its)),(3,.tp 0),(4,.i k)],[(0,some (.tip 3 137 (out.map z0)))],1⟩)
  (fun (k,out)=>k≤its.length∧out.length≤2 * k∧∃ prev,(prev=true↔∃ y,0<k∧its[k - 1]? = some y∧y.kind≠1)∧out++wr prev (its.drop k)=qaj its) (fun (k,out)=>its.length - k) (0,[]) ⟨by omega,by simp,false,by simp,rfl⟩ ?_ ?_
 ·skip
  repeat' (first|apply And.intro|(intro h;try exact cDd)|exact cSd|apply qa []|refine exr ?_|refine qh ?_)
  all_goals first|rfl|(simp;done)
 ·rintro⟨k,out⟩ ⟨hk,hol,prev,hpv,hrun⟩
  by_cases hkn:k<its.length
  ·have hx:its[k]? = some its[k]:=List.getElem?_eq_getElem hkn
   have hxm:(its.map z0)[k]? = some (z0 its[k]):=by rw [List.getElem?_map,hx];rfl
   rw [List.drop_eq_getElem_cons hkn,wr] at hrun
   generalize its[k]=x at hx hxm hrun
   have hml:(out.map z0).length=out.length:=by simp
   have hnext:(decide (x.kind≠1)=true↔∃ y,0<k+1∧its[k+1 - 1]? = some y∧y.kind≠1):=by
    rw [decide_eq_true_iff,Nat.add_sub_cancel,hx]
    constructor
    ·intro h
     exact⟨x,by omega,rfl,h⟩
    ·rintro⟨y,_,h1,h2⟩
     simp only [Option.some.injEq] at h1
     rw [h1]
     exact h2
   by_cases hk0:k=0
   ·have hp:¬ (prev=true):=fun h=>by
     obtain⟨_,h,_⟩:=hpv.1 h
     omega
    rw [if_neg (fun h=>hp h.1)] at hrun
    apply qd []
    repeat' (first|apply And.intro|(intro h;try exact cDd)|(refine Exists.intro (k) ⟨by omega,_,hxm,?_⟩)|(refine Exists.intro (k+1,out++[x]) ⟨⟨by omega,by simp;omega,_,hnext,by rw [← hrun];simp⟩,by simp only;omega,?_⟩)|exact cSd|apply qa []|refine exr ?_|refine qh ?_)
    all_goals first|(simp [SV.evs,SV.ev];done)|(simp [SV.evs];omega)
   ·obtain⟨y,hy⟩:∃ y,its[k - 1]? = some y:=⟨_,List.getElem?_eq_getElem (by omega:k - 1<its.length)⟩
    have hym:(its.map z0)[k - 1]? = some (z0 y):=by rw [List.getElem?_map,hy];rfl
    have hpy:(prev=true↔y.kind≠1):=by
     rw [hpv]
     constructor
     ·rintro⟨z,_,h1,h2⟩
      rw [hy] at h1
      simp only [Option.some.injEq] at h1
      rw [h1]
      exact h2
     ·exact fun h=>⟨y,by omega,hy,h⟩
    by_cases hb:x.kind≠1∧y.kind≠1
    ·rw [if_pos ⟨hpy.2 hb.2,hb.1⟩] at hrun
     obtain⟨hb1,hb2⟩:=hb
     apply qd []
     repeat' (first|apply And.intro|(intro h;try exact cDd)|(refine Exists.intro (k - 1) ⟨by omega,_,hym,?_⟩)|(refine Exists.intro (k) ⟨by omega,_,hxm,?_⟩)|(refine Exists.intro (k+1,out++[⟨1,[10],[]⟩,x]) ⟨⟨by omega,by simp;omega,_,hnext,by rw [← hrun];simp⟩,by simp only;omega,?_⟩)|exact cSd|apply qa []|refine exr ?_|refine qh ?_)
     all_goals first|(simp [SV.evs,SV.ev];done)|(simp [SV.evs];omega)
    ·rw [if_neg (fun h=>hb ⟨h.2,hpy.1 h.1⟩)] at hrun
     apply qd []
     repeat' (first|apply And.intro|(intro h;try exact cDd)|(refine Exists.intro (k - 1) ⟨by omega,_,hym,?_⟩)|(refine Exists.intro (k) ⟨by omega,_,hxm,?_⟩)|(refine Exists.intro (k+1,out++[x]) ⟨⟨by omega,by simp;omega,_,hnext,by rw [← hrun];simp⟩,by simp only;omega,?_⟩)|exact absurd ⟨by assumption,by assumption⟩ hb|exact cSd|apply qa []|refine exr ?_|refine qh ?_)
     all_goals first|(simp [SV.evs,SV.ev];done)|(simp [SV.evs];omega)
  ·have hkn:k=its.length:=by omega
   subst hkn
   rw [List.drop_length,wr,List.append_nil] at hrun
   rw [← hrun]
   apply qd []
   repeat' (first|apply And.intro|(intro h;try exact cDd)|exact cSd|apply qa []|refine exr ?_|refine qh ?_)
theorem qup (its:List zm) (st:List AObj) (hl:its.length≤1000000) (hr:(vh (qaj its)).length≤1000000000000):qm E 54 [ji its] st fun r st'=>r=Sv (vh (qaj its))∧st'=st:=by
 refine ze [.a (ji its)] (qq _) Tryz.func54 rfl rfl (fun _=>rfl) rfl fun S0=>?_
 have h1:=fun st=>qxp its st hl
 have hal:=qlo false its
 have h2:=fun st=>qzk (qaj its) st (by unfold qaj;omega) hr
 apply qd []
 repeat' (first|apply And.intro|(intro h;try exact cDd)|exact⟨Tryz.call95⟩|refine cpe h1 ?_|exact⟨Tryz.call94⟩|refine cpe h2 ?_|exact cSd|apply qa []|refine exr ?_|refine qh ?_)
theorem qxt (l:q7) (st:List AObj) (hl:l.ents.length<1000000):qm E 55 [kl l] st fun r st'=>r=ji (ke l)∧st'=st:=by
 refine ze [.a (kl l)] (yb _) Tryz.func55 rfl rfl (fun _=>rfl) rfl fun S0=>?_
 have hmi:(l.ents.map entA).length=l.ents.length:=by simp
 have hil:(ke l).length=l.ents.length:=by simp [ke]
 apply qd []
 repeat' (first|apply And.intro|(intro h;try exact cDd)|exact cSd|apply qa []|refine exr ?_|refine qh ?_)
 refine zq (X:=Nat) (fun k=>⟨[(1,.a (.pp [qbo l.ents,Iv l.next])),(3,.tp 0),(4,.i k)],[(0,some (.tip 3 137 (((ke l).take k).map z0)))],1⟩)
  (fun k=>k≤l.ents.length) (fun k=>l.ents.length - k) 0 (by omega) ?_ ?_
 ·skip
  repeat' (first|apply And.intro|(intro h;try exact cDd)|exact cSd|apply qa []|refine exr ?_|refine qh ?_)
  all_goals first|rfl|(simp;done)
 ·rintro k hk
  by_cases hkn:k<l.ents.length
  ·have hx:l.ents[k]? = some l.ents[k]:=List.getElem?_eq_getElem hkn
   have hxm:(l.ents.map entA)[k]? = some (entA l.ents[k]):=by rw [List.getElem?_map,hx];rfl
   have hxi:(ke l)[k]? = some l.ents[k].x:=by unfold ke;rw [List.getElem?_map,hx];rfl
   have htk:(ke l).take (k+1)=(ke l).take k++[l.ents[k].x]:=by rw [List.take_add_one,hxi];rfl
   have htl:(((ke l).take k).map z0).length≤k:=by simp;omega
   generalize l.ents[k]=e at hx hxm hxi htk
   apply qd []
   repeat' (first|apply And.intro|(intro h;try exact cDd)|(refine Exists.intro (k) ⟨by omega,_,hxm,?_⟩)|(refine Exists.intro (k+1) ⟨by omega,by omega,?_⟩)|exact cSd|apply qa []|refine exr ?_|refine qh ?_)
   all_goals first|(rw [htk];simp;done)|(simp [SV.evs];omega)
  ·have hkn:k=l.ents.length:=by omega
   subst hkn
   have e:(ke l).take l.ents.length=ke l:=List.take_of_length_le (by omega)
   rw [e]
   apply qd []
   repeat' (first|apply And.intro|(intro h;try exact cDd)|exact cSd|apply qa []|refine exr ?_|refine qh ?_)
theorem qn4 (l:q7) (st:List AObj) (hl:l.ents.length<1000000) (hr:(qm5 l).length≤1000000000000):qm E 17 [kl l] st fun r st'=>r=Sv (qm5 l)∧st'=st:=by
 refine ze [.a (kl l)] (qq _) Tryz.func17 rfl rfl (fun _=>rfl) rfl fun S0=>?_
 have h1:=fun st=>qxt l st hl
 have h2:=fun st=>qup (ke l) st (by simp [ke];omega) hr
 apply qd []
 repeat' (first|apply And.intro|(intro h;try exact cDd)|exact⟨Tryz.call55⟩|refine cpe h1 ?_|exact⟨Tryz.call54⟩|refine cpe h2 ?_|exact cSd|apply qa []|refine exr ?_|refine qh ?_)
end Go.Proofs.YtmoklbacdkmkaaaGreatDoor
