/- Contracts and plain facts that the closing text leans on (part 8). No condition of their own beyond those that each states. -/
import Derived.Test.YtapblfabkbdgcaaGreatDoorK7
set_option maxRecDepth 100000
set_option linter.unusedVariables false
set_option linter.unusedSimpArgs false
namespace Go.Pl
open Go Go.Proofs
def y0 (id:Int):Nat→List EntV→Int
 | _,[]=> -1
 |k,e::r=>if e.id=id then (k:Int) else y0 id (k+1) r
def atF (l:q9) (id:Int):Int:=if id<1 then -1 else y0 id 0 l.ents
theorem qsc (id:Int):∀ (es:List EntV) (k:Nat),y0 id k es = -1∨∃ i e,y0 id k es=((k+i:Nat):Int)∧es[i]? = some e∧e.id=id
 | [],k=>.inl rfl
 |e::r,k=>by
  unfold y0;by_cases h:e.id=id
  ·rw [if_pos h]
   exact .inr ⟨0,e,by simp,rfl,h⟩
  ·rw [if_neg h]
   rcases qsc id r (k+1) with g | ⟨i,e',g1,g2,g3⟩
   ·exact .inl g
   ·exact .inr ⟨i+1,e',by rw [g1];congr 1;omega,by simpa using g2,g3⟩
theorem qkh (l:q9) (id:Int):atF l id = -1∨∃ (i:Nat) (e:EntV),atF l id=(i:Int)∧l.ents[i]? = some e∧e.id=id∧1≤id:=by
 unfold atF;by_cases h:id<1
 ·exact .inl (if_pos h)
 ·rw [if_neg h]
  rcases qsc id l.ents 0 with g | ⟨i,e,g1,g2,g3⟩
  ·exact .inl g
  ·exact .inr ⟨i,e,by rw [g1];congr 1;omega,g2,g3,by omega⟩
end Go.Pl
namespace Go.Proofs.YtapblfabkbdgcaaGreatDoor
open Go Go.Av Go.RowKit Go.Proofs Go.Pl
theorem zjl (e:EntV) (id:Int) (st:List AObj):qo E 196 [entA e,.pp [Iv id]] st fun r st'=>r=Bv (decide (e.id=id))∧st'=st:=by
 refine zw [.a (entA e),.a (.pp [Iv id])] (q8 _) Tryz.func196 rfl rfl (fun _=>rfl) rfl fun S0=>?_;apply qf [];repeat' (first|apply And.intro|(intro h;try exact cDd)|exact cSd|apply qd []|refine exr ?_|refine qk ?_)
@[reducible] def atFn (id : Int) : SV := .fn (.func 196) [] [.a (.pp [Iv id])]
theorem zgd (l:q9) (st:List AObj):qo E 116 [vt l] st fun r st'=>r=Iv l.next∧st'=st:=by
 refine zw [.a (vt l)] (q8 _) Tryz.func116 rfl rfl (fun _=>rfl) rfl fun S0=>?_;apply qf [];repeat' (first|apply And.intro|(intro h;try exact cDd)|exact cSd|apply qd []|refine exr ?_|refine qk ?_)
@[reducible] def lstH (a : Nat) (l : q9) : List (Nat × Option SR) := [(0, some (.cells 105 [.tp a, .i l.next, .i l.many])), (a, some (.own 4 109 (l.ents.map entA)))]
theorem zco (es:List EntV) (id:Int) (hl:es.length<1000000):ko E 195 [.tp 0,atFn id] 1 (hpF [(0,some (.own 4 109 (es.map entA)))]) ⟨.i (y0 id 0 es),j7 [(0,some (.own 4 109 (es.map entA)))],[(0,some (.own 4 109 (es.map entA)))]++vh [(0,some (.own 4 109 (es.map entA)))],1⟩:=by
 refine wq [.tp 0,atFn id] [(0,some (.own 4 109 (es.map entA)))] 1 (.i (y0 id 0 es)) [(0,some (.own 4 109 (es.map entA)))] 1 Tryz.func195 rfl rfl rfl rfl fun S F ρ=>?_;have i6:(es.map entA).length=es.length:=by simp
 apply qf [];repeat' (first|apply And.intro|(intro h;try exact cDd)|exact cSd|apply qd []|refine exr ?_|refine qk ?_)
 refine j5 (X:=Nat) (fun k=>⟨[(0,.tp 0),(1,atFn id),(7,.i es.length),(8,.i k)],[(0,some (.own 4 109 (es.map entA)))],1⟩) (fun k=>k≤es.length∧y0 id k (es.drop k)=y0 id 0 es) (fun k=>es.length - k) 0 ⟨by omega,by simp⟩ ?_ ?_
 ·skip
  repeat' (first|apply And.intro|(intro h;try exact cDd)|exact cSd|apply qd []|refine exr ?_|refine qk ?_)
  all_goals (simp;done)
 ·rintro k ⟨hk,a8⟩
  by_cases i7:k<es.length
  ·have hx:es[k]? = some es[k]:=List.getElem?_eq_getElem i7
   have m3:(es.map entA)[k]? = some (entA es[k]):=by rw [List.getElem?_map,hx];rfl
   rw [List.drop_eq_getElem_cons i7,y0] at a8;generalize es[k]=e at hx m3 a8;have h1:=fun st=>zjl e id st;by_cases cj:e.id=id
   ·rw [if_pos cj] at a8
    rw [decide_eq_true cj] at h1;rw [← a8];apply qf [];repeat' (first|apply And.intro|(intro h;try exact cDd)|(refine qbm (i:=k) rfl rfl rfl rfl rfl rfl (by omega) ?_)|(refine qc0 (i:=k) (j:=0) rfl rfl rfl rfl m3 rfl rfl ?_)|exact⟨Tryz.call196⟩|refine cpe h1 ?_|exact cSd|apply qd []|refine exr ?_|refine qk ?_)
   ·rw [if_neg cj] at a8
    rw [decide_eq_false cj] at h1;apply qf [];repeat' (first|apply And.intro|(intro h;try exact cDd)|(refine qbm (i:=k) rfl rfl rfl rfl rfl rfl (by omega) ?_)|(refine qc0 (i:=k) (j:=0) rfl rfl rfl rfl m3 rfl rfl ?_)|exact⟨Tryz.call196⟩|refine cpe h1 ?_|(refine Exists.intro (k+1) ⟨⟨by omega,a8⟩,by omega,?_⟩)|exact cSd|apply qd []|refine exr ?_|refine qk ?_)
  ·have i7:k=es.length:=by omega
   subst i7;rw [List.drop_length,y0] at a8;rw [← a8];apply qf [];repeat' (first|apply And.intro|(intro h;try exact cDd)|exact cSd|apply qd []|refine exr ?_|refine qk ?_)
theorem qty (l:q9) (id:Int) (hl:l.ents.length<1000000):ko E 168 [.bx 0 0,.i id] 2 (hpF (lstH 1 l)) ⟨.i (atF l id),j7 (lstH 1 l),lstH 1 l++vh (lstH 1 l),2⟩:=by
 refine wq [.bx 0 0,.i id] (lstH 1 l) 2 (.i (atF l id)) (lstH 1 l) 2 Tryz.func168 rfl rfl rfl rfl fun S F ρ=>?_;unfold atF;have h1:=zco l.ents id hl;by_cases h:id<1
 ·rw [if_pos h]
  apply qf [];repeat' (first|apply And.intro|(intro h;try exact cDd)|exact cSd|apply qd []|refine exr ?_|refine qk ?_)
 ·rw [if_neg h]
  apply qf [];repeat' (first|apply And.intro|(intro h;try exact cDd)|exact⟨Tryz.call195⟩|(refine jk h1 ?_)|exact cSd|apply qd []|refine exr ?_|refine qk ?_)
end Go.Proofs.YtapblfabkbdgcaaGreatDoor
namespace Go.Pl
open Go Go.Proofs
def qus (fs:List Fld):qc:=if zv fs = .no then z7 fs else []
def xj (fs:List Fld):za:=if zv fs = .no then⟨3,z7 fs,fs⟩ else⟨0,[],[]⟩
def ji (its:List za):qc:=its.flatMap fun x=>x.raw
theorem qew (a b:List za):ji (a++b)=ji a++ji b:=by simp [ji]
theorem qex (x:za):ji [x]=x.raw:=by simp [ji]
def jz (prev:Bool):List za→List za
 | []=>[]
 |x::r=>(if prev=true∧x.kind≠1 then [⟨1,[10],[]⟩,x] else [x])++jz (decide (x.kind≠1)) r
def y8 (its:List za):List za:=jz false its
def jc (l:q9):List za:=l.ents.map fun e=>e.x
def qap (l:q9):qc:=ji (y8 (jc l))
end Go.Pl
namespace Go.Proofs.YtapblfabkbdgcaaGreatDoor
open Go Go.Av Go.RowKit Go.Proofs Go.Pl
theorem zab (fs:List Fld) (st:List AObj) (hK:KeyB fs) (hl:fs.length<9223372036854775808):qo E 197 [zp fs] st fun r st'=>r = .tu [Sv (qus fs),errA (zv fs)]∧st'=st:=by
 refine zw [.a (zp fs)] (j9 (q8 _) (vd _)) Tryz.func197 rfl rfl (fun _=>rfl) rfl fun S0=>?_;unfold qus
 cases he:zv fs with
 |no=>
  rw [if_pos rfl];have h1:=fun st=>qls fs st _ he hK hl;obtain⟨_,h3,h4⟩:=qe8 he;have h2:=fun st=>qr7 fs st h3 h4;apply qf []
  repeat' (first|apply And.intro|(intro h;try exact cDd)|exact⟨Tryz.call141⟩|refine cpe h1 ?_|exact⟨Tryz.call64⟩|refine cpe h2 ?_|exact cSd|apply qd []|refine exr ?_|refine qk ?_)
 |num n=>
  rw [if_neg (by simp)];have h1:=fun st=>qls fs st _ he hK hl;apply qf []
  repeat' (first|apply And.intro|(intro h;try exact cDd)|exact⟨Tryz.call141⟩|refine cpe h1 ?_|exact cSd|apply qd []|refine exr ?_|refine qk ?_)
 |at' a n=>
  rw [if_neg (by simp)];have h1:=fun st=>qls fs st _ he hK hl;apply qf [];repeat' (first|apply And.intro|(intro h;try exact cDd)|exact⟨Tryz.call141⟩|refine cpe h1 ?_|exact cSd|apply qd []|refine exr ?_|refine qk ?_)
theorem q4q (fs:List Fld) (st:List AObj) (hK:KeyB fs) (hl:fs.length<1000000):qo E 169 [zp fs] st fun r st'=>r = .tu [vr (xj fs),errA (zv fs)]∧st'=st:=by
 refine zw [.a (zp fs)] (j9 (qav (qj1 _)) (vd _)) Tryz.func169 rfl rfl (fun _=>rfl) rfl fun S0=>?_;have h1:=fun st=>zab fs st hK (by omega);have h2:=fun st=>qb7 fs st hl;unfold qus at h1;unfold xj
 cases he:zv fs with
 |no=>
  rw [he,if_pos rfl] at h1;rw [if_pos rfl];apply qf []
  repeat' (first|apply And.intro|(intro h;try exact cDd)|exact⟨Tryz.call197⟩|refine cpe h1 ?_|exact⟨Tryz.call91⟩|refine cpe h2 ?_|exact cSd|apply qd []|refine exr ?_|refine qk ?_)
 |num n=>
  rw [he,if_neg (by simp)] at h1;rw [if_neg (by simp)];apply qf []
  repeat' (first|apply And.intro|(intro h;try exact cDd)|exact⟨Tryz.call197⟩|refine cpe h1 ?_|exact cSd|apply qd []|refine exr ?_|refine qk ?_)
 |at' a n=>
  rw [he,if_neg (by simp)] at h1;rw [if_neg (by simp)];apply qf [];repeat' (first|apply And.intro|(intro h;try exact cDd)|exact⟨Tryz.call197⟩|refine cpe h1 ?_|exact cSd|apply qd []|refine exr ?_|refine qk ?_)
theorem zb0 (x:za) (st:List AObj) (hl:x.fields.length<1000000):qo E 132 [vr x] st fun r st'=>r=vr x∧st'=st:=by
 refine zw [.a (vr x)] (qav (qj1 _)) Tryz.func132 rfl rfl (fun _=>rfl) rfl fun S0=>?_;have h2:=fun st=>qb7 x.fields st hl;apply qf [1];repeat' (first|apply And.intro|(intro h;try exact cDd)|exact⟨Tryz.call91⟩|refine cpe h2 ?_|exact cSd|apply qd [1]|refine exr ?_|refine qk ?_)
structure ItsB (its:List za):Prop where
 len:its.length≤1000000
 fld:∀ x∈its,x.fields.length<1000000
theorem qu2 (prev:Bool):∀ its:List za,(jz prev its).length≤2 * its.length
 | []=>by simp [jz]
 |x::r=>by
  have ih:=qu2 (decide (x.kind≠1)) r;unfold jz;split <;> simp only [List.length_append,List.length_cons,List.length_nil] <;> omega
theorem zc9 (its:List za) (st:List AObj) (hB:ItsB its):qo E 90 [w8 its] st fun r st'=>r=w8 (y8 its)∧st'=st:=by
 refine zw [.a (w8 its)] (qga _) Tryz.func90 rfl rfl (fun _=>rfl) rfl fun S0=>?_;have hln:=hB.len;apply qf [];repeat' (first|apply And.intro|(intro h;try exact cDd)|exact cSd|apply qd []|refine exr ?_|refine qk ?_)
 refine j5 (X:=Nat×List za) (fun (k,out)=>⟨[(0,.a (w8 its)),(3,.tp 0),(6,.a (w8 its)),(7,.i its.length),(8,.i k)],[(0,some (.tip 3 107 (out.map vr)))],1⟩)
  (fun (k,out)=>k≤its.length∧out.length≤2 * k∧∃ prev,(prev=true↔∃ y,0<k∧its[k - 1]? = some y∧y.kind≠1)∧out++jz prev (its.drop k)=y8 its) (fun (k,out)=>its.length - k) (0,[]) ⟨by omega,by simp,false,by simp,rfl⟩ ?_ ?_
 ·skip
  repeat' (first|apply And.intro|(intro h;try exact cDd)|exact cSd|apply qd []|refine exr ?_|refine qk ?_)
  all_goals (simp;done)
 ·rintro⟨k,out⟩ ⟨hk,fm,prev,hpv,a8⟩
  by_cases i7:k<its.length
  ·have hx:its[k]? = some its[k]:=List.getElem?_eq_getElem i7
   have m3:(its.map vr)[k]? = some (vr its[k]):=by rw [List.getElem?_map,hx];rfl
   have hxf:=hB.fld its[k] (List.getElem_mem i7);rw [List.drop_eq_getElem_cons i7,jz] at a8;generalize its[k]=x at hx m3 a8 hxf;have np:=fun st=>zb0 x st hxf;have i6:(out.map vr).length=out.length:=by simp
   have tc:(decide (x.kind≠1)=true↔∃ y,0<k+1∧its[k+1 - 1]? = some y∧y.kind≠1):=by
    rw [decide_eq_true_iff,Nat.add_sub_cancel,hx];constructor
    ·intro h
     exact⟨x,by omega,rfl,h⟩
    ·rintro⟨y,_,h1,h2⟩
     simp only [Option.some.injEq] at h1;rw [h1];exact h2
   by_cases hk0:k=0
   ·have hp:¬ (prev=true):=fun h=>by
     obtain⟨_,h,_⟩:=hpv.1 h;omega
    rw [if_neg (fun h=>hp h.1)] at a8;apply qf [];repeat' (first|apply And.intro|(intro h;try exact cDd)|(refine Exists.intro (k) ⟨by omega,_,m3,?_⟩)|exact⟨Tryz.call132⟩|refine cpe np ?_|(refine Exists.intro (k+1,out++[x]) ⟨⟨by omega,by simp;omega,_,tc,by rw [← a8];simp⟩,by simp only;omega,?_⟩)|exact cSd|apply qd []|refine exr ?_|refine qk ?_)
    all_goals first|(simp [SV.evs,SV.ev];done)|(simp [SV.evs];omega)
   ·obtain⟨y,hy⟩:∃ y,its[k - 1]? = some y:=⟨_,List.getElem?_eq_getElem (by omega:k - 1<its.length)⟩
    have hym:(its.map vr)[k - 1]? = some (vr y):=by rw [List.getElem?_map,hy];rfl
    have hpy:(prev=true↔y.kind≠1):=by
     rw [hpv];constructor
     ·rintro⟨z,_,h1,h2⟩
      rw [hy] at h1;simp only [Option.some.injEq] at h1;rw [h1];exact h2
     ·exact fun h=>⟨y,by omega,hy,h⟩
    by_cases hb:x.kind≠1∧y.kind≠1
    ·rw [if_pos ⟨hpy.2 hb.2,hb.1⟩] at a8
     obtain⟨o6,r8⟩:=hb;apply qf [];repeat' (first|apply And.intro|(intro h;try exact cDd)|(refine Exists.intro (k) ⟨by omega,_,m3,?_⟩)|(refine Exists.intro (k - 1) ⟨by omega,_,hym,?_⟩)|exact⟨Tryz.call132⟩|refine cpe np ?_|(refine Exists.intro (k+1,out++[⟨1,[10],[]⟩,x]) ⟨⟨by omega,by simp;omega,_,tc,by rw [← a8];simp⟩,by simp only;omega,?_⟩)|exact cSd|apply qd []|refine exr ?_|refine qk ?_)
     all_goals first|(simp [SV.evs,SV.ev];done)|(simp [SV.evs];omega)
    ·rw [if_neg (fun h=>hb ⟨h.2,hpy.1 h.1⟩)] at a8
     apply qf [];repeat' (first|apply And.intro|(intro h;try exact cDd)|(refine Exists.intro (k) ⟨by omega,_,m3,?_⟩)|(refine Exists.intro (k - 1) ⟨by omega,_,hym,?_⟩)|exact⟨Tryz.call132⟩|refine cpe np ?_|(refine Exists.intro (k+1,out++[x]) ⟨⟨by omega,by simp;omega,_,tc,by rw [← a8];simp⟩,by simp only;omega,?_⟩)|exact absurd ⟨by assumption,by assumption⟩ hb|exact cSd|apply qd []|refine exr ?_|refine qk ?_)
     all_goals first|(simp [SV.evs,SV.ev];done)|(simp [SV.evs];omega)
  ·have i7:k=its.length:=by omega
   subst i7;rw [List.drop_length,jz,List.append_nil] at a8;rw [← a8];apply qf [];repeat' (first|apply And.intro|(intro h;try exact cDd)|exact cSd|apply qd []|refine exr ?_|refine qk ?_)
theorem zhb (its:List za) (st:List AObj) (hl:its.length≤4000000) (hr:(ji its).length≤1000000000000):qo E 89 [w8 its] st fun r st'=>r=Sv (ji its)∧st'=st:=by
 refine ze (q8 _) (qr Tryz.func89 rfl (Nat.le_of_ble_eq_true rfl) ?_);have i6:(its.map vr).length=its.length:=by simp
 repeat' (first|(apply qf3;exact rfl)|apply qm|apply qu|apply qg|apply qh|apply ql|apply qi|(apply ja;(iterate 4 exact rfl)))
 refine qa0 its (fun pre s=>∃ q,(q = .v (.pointer none)∨q = .bx (st.length+0) 0 0)∧StE [(3,.bx (st.length+0) 0 0),(6,w8 its),(7,Iv its.length),(8,Iv pre.length)] st [bldO 0 q (ji pre) (st.length+1),.tip (ji pre).length 1 5] s) ⟨_,.inl rfl,qci ⟨rfl,rfl,congrArg (fun n:Nat=>Iv (n:Int)) i6,rfl,trivial⟩ rfl⟩ ?_ ?_
 ·rintro _ ⟨q,hq,t,ext,rfl⟩
  repeat' (first|apply qm|apply qg|apply qh|apply qi|(apply qt;(iterate 3 exact rfl))|(apply qe;exact rfl;apply wm;exact cAo)|apply jg|apply q6|(refine qq Tryz.call62 (qf4 st _ _ _ _ 0 1 0 _ _ rfl rfl rfl) ?_))
  exact qn rfl (zh rfl) ⟨rfl,yl _ _ _ _⟩
 ·rintro pre x rest _ tq ⟨q,hq,t,ext,rfl⟩
  have c8:its.length=pre.length+(rest.length+1):=by rw [tq];simp
  have c9:(its.map vr)[pre.length]? = some (vr x):=by rw [tq];simp
  have dk:(ji pre).length+x.raw.length≤1000000000000:=by
   have e:x::rest=[x]++rest:=rfl;rw [tq,qew,e,qew,qex] at hr;simp only [List.length_append] at hr;omega
  repeat' (first|apply qm|apply qu|apply qg|apply qh|(apply qt;(iterate 3 exact rfl))|(apply qe;exact rfl;apply vj;exact cAo)|(apply jp;exact rfl;exact rfl)|(apply zg;(iterate 3 exact rfl))|(apply jo;(iterate 3 exact rfl))|(apply jf;(iterate 5 exact rfl))|(apply z4;(iterate 11 exact rfl))|apply qw|(apply j8 (n:=pre.length);(iterate 5 exact rfl);exact c9))
  refine qq Tryz.call65 (qha st _ _ _ _ 0 1 0 _ _ _ rfl rfl ?_ ?_ rfl) ?_;(exact hq);(omega);repeat' (first|apply qg|apply qh|apply ql|(apply zn;exact rfl;exact rfl;exact zb (by omega) (by omega)))
  refine⟨_,.inr rfl,y9 ⟨rfl,rfl,rfl,?_,trivial⟩ ?_⟩
  ·rw [qcb pre x];rfl
  ·rw [qew,qex];rfl
theorem zdo (its:List za) (st:List AObj) (hB:ItsB its) (hr:(ji (y8 its)).length≤1000000000000):qo E 52 [w8 its] st fun r st'=>r=Sv (ji (y8 its))∧st'=st:=by
 refine zw [.a (w8 its)] (q8 _) Tryz.func52 rfl rfl (fun _=>rfl) rfl fun S0=>?_;have h1:=fun st=>zc9 its st hB;have hal:=qu2 false its;have hln:=hB.len;have h2:=fun st=>zhb (y8 its) st (by unfold y8;omega) hr;apply qf [];repeat' (first|apply And.intro|(intro h;try exact cDd)|exact⟨Tryz.call90⟩|refine cpe h1 ?_|exact⟨Tryz.call89⟩|refine cpe h2 ?_|exact cSd|apply qd []|refine exr ?_|refine qk ?_)
theorem zcw (l:q9) (st:List AObj) (hB:ItsB (jc l)):qo E 53 [vt l] st fun r st'=>r=w8 (jc l)∧st'=st:=by
 refine zw [.a (vt l)] (qga _) Tryz.func53 rfl rfl (fun _=>rfl) rfl fun S0=>?_;have hln:=hB.len;have mg:(jc l).length=l.ents.length:=by simp [jc]
 apply qf [];repeat' (first|apply And.intro|(intro h;try exact cDd)|exact cSd|apply qd []|refine exr ?_|refine qk ?_)
 refine j5 (X:=Nat) (fun k=>⟨[(3,.tp 0),(12,.a (.sl 4 (l.ents.map entA) none)),(13,.i l.ents.length),(14,.i k)],[(0,some (.tip 3 107 (((jc l).take k).map vr)))],1⟩)
  (fun k=>k≤l.ents.length) (fun k=>l.ents.length - k) 0 (by omega) ?_ ?_
 ·skip
  repeat' (first|apply And.intro|(intro h;try exact cDd)|exact cSd|apply qd []|refine exr ?_|refine qk ?_)
  all_goals (simp;done)
 ·rintro k hk
  by_cases i7:k<l.ents.length
  ·have hx:l.ents[k]? = some l.ents[k]:=List.getElem?_eq_getElem i7
   have m3:(l.ents.map entA)[k]? = some (entA l.ents[k]):=by rw [List.getElem?_map,hx];rfl
   have hxi:(jc l)[k]? = some l.ents[k].x:=by unfold jc;rw [List.getElem?_map,hx];rfl
   have hxf:=hB.fld l.ents[k].x (List.mem_of_getElem? hxi);have r6:(jc l).take (k+1)=(jc l).take k++[l.ents[k].x]:=by rw [List.take_add_one,hxi];rfl
   have htl:(((jc l).take k).map vr).length≤k:=by simp;omega
   generalize l.ents[k]=e at hx m3 hxi hxf r6;have np:=fun st=>qb7 e.x.fields st hxf;apply qf [];repeat' (first|apply And.intro|(intro h;try exact cDd)|(refine Exists.intro (k) ⟨by omega,_,m3,?_⟩)|exact⟨Tryz.call91⟩|refine cpe np ?_|(refine Exists.intro (k+1) ⟨by omega,by omega,?_⟩)|exact cSd|apply qd []|refine exr ?_|refine qk ?_)
   all_goals first|(rw [r6];simp;done)|(simp [SV.evs];omega)
  ·have i7:k=l.ents.length:=by omega
   subst i7;have e:(jc l).take l.ents.length=jc l:=List.take_of_length_le (by omega);rw [e];apply qf [];repeat' (first|apply And.intro|(intro h;try exact cDd)|exact cSd|apply qd []|refine exr ?_|refine qk ?_)
theorem q4h (l:q9) (st:List AObj) (hB:ItsB (jc l)) (hr:(qap l).length≤1000000000000):qo E 28 [vt l] st fun r st'=>r=Sv (qap l)∧st'=st:=by
 refine zw [.a (vt l)] (q8 _) Tryz.func28 rfl rfl (fun _=>rfl) rfl fun S0=>?_;have h1:=fun st=>zcw l st hB;have h2:=fun st=>zdo (jc l) st hB hr;apply qf [];repeat' (first|apply And.intro|(intro h;try exact cDd)|exact⟨Tryz.call53⟩|refine cpe h1 ?_|exact⟨Tryz.call52⟩|refine cpe h2 ?_|exact cSd|apply qd []|refine exr ?_|refine qk ?_)
theorem qh6 (es:List EntV):∀ x∈es.map entA,x.cells.length=4:=fun x hx=>by
 obtain⟨e,_,rfl⟩:=List.mem_map.1 hx;rfl
theorem qcs (es:List EntV):(flat (es.map entA)).length=es.length * 4:=by
 rw [zo (qh6 es),List.length_map]
theorem qgl (a b:List EntV):flat ((a++b).map entA)=flat (a.map entA)++flat (b.map entA):=by rw [List.map_append,wg]
theorem qdp (A B xs:List AV) {off:Nat} (h:A.length=off):zr (A++B) off xs=A++xs++B.drop xs.length:=by
 unfold zr;rw [← h,List.take_left,List.drop_append,List.drop_eq_nil_of_le (by omega)];simp
theorem qhp {cs xs:List AV} {off:Nat} (h:off+xs.length≤cs.length):(zr cs off xs).length=cs.length:=by
 unfold zr;simp;omega
theorem zja (es:List EntV) (i:Nat) (hi:i<es.length) (hl:es.length<1000000) (st:List AObj) (c:AV) (hc:OwnS st 4 109 (es.map entA) c):qo E 170 [c,Iv i,Iv ((i:Int)+1)] st fun r st'=>OwnR 4 109 ((es.take i++es.drop (i+1)).map entA) st c r st':=by
 have i6:(es.map entA).length=es.length:=by simp
 rcases hc with⟨h0,_⟩ | ⟨o,ver,cap,pad,rfl,e2,e3,e4,e5,e6⟩
 ·rw [h0] at i6
  simp at i6;omega
 rw [i6] at e5 ⊢;have d6:=lt_of_getElem? e2;have i3:=qcs es
 have o9:flat (es.map entA)++pad=flat ((es.take i).map entA)++(flat ((es.drop i).map entA)++pad):=by
  rw [← List.append_assoc,← qgl,List.take_append_drop]
 have pc:(flat ((es.take i).map entA)).length=i * 4:=by rw [qcs,List.length_take,Nat.min_eq_left (by omega)]
 have pq:(flat ((es.drop (i+1)).map entA)).length=(es.length - (i+1)) * 4:=by rw [qcs,List.length_drop]
 obtain⟨B1,mw⟩:∃ B1,(flat ((es.drop i).map entA)++pad).drop (flat ((es.drop (i+1)).map entA)).length=B1:=⟨_,rfl⟩
 have dn:zr (flat (es.map entA)++pad) (i * 4) (flat ((es.drop (i+1)).map entA))=flat ((es.take i++es.drop (i+1)).map entA)++B1:=by
  rw [o9,qdp _ _ _ pc,qgl,mw]
 have dv:(flat ((es.take i++es.drop (i+1)).map entA)++B1).length=(cap+1) * 4:=by
  rw [← dn,qhp (by rw [e3,pq];omega),e3]
 have ct:(es.take i++es.drop (i+1)).length=es.length - 1:=by simp;omega
 -- what is appended
 obtain⟨q,hq⟩:∃ q,(if cap+1=i+1 then 0 else 0+(i+1) * 4)=q:=⟨_,rfl⟩
 have hqz:((flat (es.map entA)++pad).drop q).take ((es.length - (i+1)) * 4)=flat ((es.drop (i+1)).map entA)∧q+(es.length - (i+1)) * 4≤(flat (es.map entA)++pad).length:=by
  rw [e3];by_cases hci:cap+1=i+1
  ·have:es.length - (i+1)=0:=by omega
   rw [if_pos hci] at hq;rw [this,← hq,List.drop_eq_nil_of_le (by omega:es.length≤i+1)];exact⟨by simp [flat],by omega⟩
  ·rw [if_neg hci] at hq
   rw [← hq];refine⟨?_,by omega⟩
   have e:flat (es.map entA)++pad=flat ((es.take (i+1)).map entA)++(flat ((es.drop (i+1)).map entA)++pad):=by
    rw [← List.append_assoc,← qgl,List.take_append_drop]
   have e':(flat ((es.take (i+1)).map entA)).length=0+(i+1) * 4:=by rw [qcs,List.length_take,Nat.min_eq_left (by omega)];omega
   rw [e,← e',List.drop_left,← pq,List.take_left]
 have l6:SrcA st 4 (.os o ver q (es.length - (i+1)) (cap+1 - (i+1))) (es.length - (i+1)) (es.length - (i+1)) (flat ((es.drop (i+1)).map entA)):=by
  have:=SrcA.os (st:=st) (sz:=4) o ver q (es.length - (i+1)) (cap+1 - (i+1)) (es.length - (i+1)) _ _ e2 hqz.2 (by rw [hqz.1];exact qb4 fun _=>rfl);rw [hqz.1] at this;exact this
 refine qr Tryz.func170 rfl (Nat.le_of_ble_eq_true rfl) ?_;rw [List.append_nil];repeat' (first|(refine zu (sz:=4) (i:=i) (j:=i+1) (m:=es.length) rfl rfl rfl ?_ ?_ ?_ ?_ ?_ ?_ ?_;exact⟨_,rfl⟩;exact⟨_,rfl⟩;exact⟨_,rfl⟩;omega;omega;omega)|apply qm|apply qg|apply qh|apply ql|apply qi|(apply qt;(iterate 3 exact rfl))|(apply qe;exact rfl;apply wm;exact cAo)|(apply ja;(iterate 4 exact rfl))|apply qw)
 refine qtz (fun s=>StA [(0,.os o ver 0 (i+(es.length - (i+1))) (cap+1)),(7,Iv es.length)] (st.set o (.cells ver 109 (flat ((es.take i++es.drop (i+1)).map entA)++B1))) [] s) ?_ ?_
 ·refine qiy rfl rfl ?_
  (apply x5 0;exact rfl;kernel_rfl;kernel_rfl;kernel_rfl;exact rfl;exact yy)
  (apply x5 1;exact rfl;kernel_rfl;kernel_rfl;kernel_rfl;exact rfl;exact yy)
  (apply x5 3;exact rfl;kernel_rfl;kernel_rfl;kernel_rfl;exact rfl;exact yy)
  (apply x5 4;exact rfl;kernel_rfl;kernel_rfl;kernel_rfl;exact rfl;exact yy)
  refine wl [2,5] (by kernel_rfl) rfl ⟨⟨_,rfl,?_⟩,⟨_,rfl,?_⟩,trivial⟩
  ·(refine zu (sz:=4) (i:=0) (j:=i) (m:=cap+1) rfl rfl rfl ?_ ?_ ?_ ?_ ?_ ?_ ?_;exact rfl;exact⟨_,rfl⟩;exact rfl;omega;omega;omega)
   apply qh;refine wl [5] (by kernel_rfl) rfl ⟨⟨_,rfl,?_⟩,trivial⟩
   (refine zu (sz:=4) (i:=i+1) (j:=es.length) (m:=cap+1) rfl rfl rfl ?_ ?_ ?_ ?_ ?_ ?_ ?_;exact⟨_,rfl⟩;exact⟨rfl,rfl⟩;exact rfl;omega;omega;omega;rw [hq])
   apply qh;refine wl [6] (by kernel_rfl) rfl ⟨⟨_,rfl,?_⟩,trivial⟩
   (refine qma (bytes:=56) (o:=o) (ver:=ver) (n:=i) (cap:=cap+1) (m:=es.length - (i+1)) (cs:=flat (es.map entA)++pad) rfl rfl e2 l6 rfl rfl ⟨⟨_,_,rfl,rfl,rfl,rfl,rfl⟩⟩ (by omega) e3 ?_;rw [dn])
   apply qh
   (apply x5 7;exact rfl;kernel_rfl;kernel_rfl;kernel_rfl;exact rfl;exact qu8)
   refine qce (by kernel_rfl) ?_;exact jd ⟨rfl,rfl,trivial⟩
  ·(refine zu (sz:=4) (i:=i+1) (j:=es.length) (m:=cap+1) rfl rfl rfl ?_ ?_ ?_ ?_ ?_ ?_ ?_;exact⟨_,rfl⟩;exact⟨rfl,rfl⟩;exact rfl;omega;omega;omega;rw [hq])
   apply qh;refine wl [2] (by kernel_rfl) rfl ⟨⟨_,rfl,?_⟩,trivial⟩
   (refine zu (sz:=4) (i:=0) (j:=i) (m:=cap+1) rfl rfl rfl ?_ ?_ ?_ ?_ ?_ ?_ ?_;exact rfl;exact⟨_,rfl⟩;exact rfl;omega;omega;omega)
   apply qh;refine wl [6] (by kernel_rfl) rfl ⟨⟨_,rfl,?_⟩,trivial⟩
   (refine qma (bytes:=56) (o:=o) (ver:=ver) (n:=i) (cap:=cap+1) (m:=es.length - (i+1)) (cs:=flat (es.map entA)++pad) rfl rfl e2 l6 rfl rfl ⟨⟨_,_,rfl,rfl,rfl,rfl,rfl⟩⟩ (by omega) e3 ?_;rw [dn])
   apply qh
   (apply x5 7;exact rfl;kernel_rfl;kernel_rfl;kernel_rfl;exact rfl;exact qu8)
   refine qce (by kernel_rfl) ?_;exact jd ⟨rfl,rfl,trivial⟩
 ·rintro _ ⟨t,rfl⟩
  have u7:(st.set o (AObj.cells ver 109 (flat ((es.take i++es.drop (i+1)).map entA)++B1)))[o]? = some (.cells ver 109 (flat ((es.take i++es.drop (i+1)).map entA)++B1)):=ke e2
  have hqq:(if cap+1=i+(es.length - (i+1)) then 0 else 0+(i+(es.length - (i+1))) * 4)=(es.length - 1) * 4:=by
   rw [if_neg (by omega)];omega
  have sm:(flat ((es.take i++es.drop (i+1)).map entA)).length=(es.length - 1) * 4:=by rw [qcs,ct]
  repeat' (first|(refine zu (sz:=4) (i:=i+(es.length - (i+1))) (j:=es.length) (m:=cap+1) rfl rfl rfl ?_ ?_ ?_ ?_ ?_ ?_ ?_;exact⟨_,rfl⟩;exact⟨_,rfl⟩;exact rfl;omega;omega;omega;rw [hqq])|(refine qyg (sz:=4) (bytes:=56) rfl u7 rfl ⟨⟨_,_,rfl,rfl,rfl,rfl,rfl⟩⟩ rfl (by rw [dv];omega) fun zs hz=>?_)|apply qm|apply qg|apply qh|apply ql|apply qi|(apply ja;(iterate 4 exact rfl))|apply q6)
  refine qn rfl (zh rfl) ?_
  show OwnR 4 109 _ st _ (.os o ver 0 (i+(es.length - (i+1))) (cap+1)) ((st.set o _).set o (.cells ver 109 (zr (flat ((es.take i++es.drop (i+1)).map entA)++B1) ((es.length - 1) * 4) zs)))
  rw [List.set_set,qdp _ _ _ sm,List.append_assoc];have hB1l:(es.length - 1) * 4+B1.length=(cap+1) * 4:=by rw [← sm,← List.length_append];exact dv
  have gp:zs.length=4:=by rw [hz];omega
  refine⟨.inr ⟨o,ver,cap,zs++B1.drop zs.length,?_,ke e2,?_,qh6 _,?_,e6⟩,by simp,fun j hj b8=>List.getElem?_set_ne fun e=>b8 (by rw [e];rfl),fun o' d7=>.inr d7⟩
  ·rw [List.length_map,ct]
   congr 1;omega
  ·rw [List.length_append,List.length_append,List.length_drop,sm,gp]
   omega
  ·rw [List.length_map,ct]
   omega
theorem zg7 (e:EntV) (st:List AObj) (c:AV) (hnr:qcd c):qo E 171 [c,Iv 0,.sl 4 [entA e] none] st fun r st'=>OwnR 4 109 [entA e] st c r st':=by
 refine qr Tryz.func171 rfl (Nat.le_of_ble_eq_true rfl) ?_;rw [List.append_nil];repeat' (first|(apply ja (n:=1);(iterate 4 exact rfl))|(refine qym (sz:=4) rfl hnr.val rfl rfl ?_ ?_;exact⟨_,rfl⟩)|(apply ja;exact rfl;exact hnr.len;exact rfl;exact rfl)|(refine qd7 (sz:=4) (ys:=[entA e]) (bytes:=56) hnr.val (fun _ _ h=>h) rfl rfl ⟨⟨_,_,rfl,rfl,rfl,rfl,rfl⟩⟩ rfl (by simp) (by simp [maxLen]) (by simp) fun cap pad q1 q2 q3 q4=>?_)|apply qm|apply qg|apply qh|apply ql|apply qi|(apply qt;(iterate 3 exact rfl))|(apply qe;exact rfl;apply vj;exact cAo)|(apply qe;exact rfl;apply wm;exact cAo)|apply qw|apply q6)
 refine qn rfl (zh rfl) ?_
 show OwnR 4 109 _ st c (.os st.length 0 0 _ (cap+1)) (st++[_])
 refine⟨.inr ⟨_,0,cap,pad,rfl,wh,q1,q2,q3,q4⟩,qfu,fun j hj _=>List.getElem?_append_left hj,fun o ho=>?_⟩;simp only [zl,Option.some.injEq] at ho;left;omega
theorem zg8 (es:List EntV) (e:EntV) (hl:es.length<1000000) (st:List AObj) (o ver cap:Nat) (pad:List AV) (e2:st[o]? = some (.cells ver 109 (flat (es.map entA)++pad))) (e3:(flat (es.map entA)++pad).length=(cap+1) * 4) (e5:es.length≤cap+1) (e6:cap+1≤maxLen) :
  qo E 171 [.os o ver 0 es.length (cap+1),Iv es.length,.sl 4 [entA e] none] st fun r st'=>OwnR 4 109 (es.map entA++[entA e]) st (.os o ver 0 es.length (cap+1)) r st':=by
 have i6:(es.map entA).length=es.length:=by simp
 have d6:=lt_of_getElem? e2
 have hV0:Vec 4 109 o (es.map entA) (.os o ver 0 es.length (cap+1)) (.cells ver 109 (flat (es.map entA)++pad)):=by
  have:=Vec.os (o:=o) (T:=109) (xs:=es.map entA) ver (cap+1) pad e3 (qh6 _) (by omega) e6;rw [i6] at this;exact this
 refine qr Tryz.func171 rfl (Nat.le_of_ble_eq_true rfl) ?_;rw [List.append_nil];repeat' (first|(apply ja (n:=1);(iterate 4 exact rfl))|(refine zu (sz:=4) (i:=es.length) (j:=es.length) (m:=cap+1) rfl rfl rfl ?_ ?_ ?_ ?_ ?_ ?_ ?_;exact⟨_,rfl⟩;exact⟨rfl,rfl⟩;exact rfl;omega;omega;omega)|(refine qmb (sz:=4) (bytes:=56) (o:=o) (xs:=es.map entA) (ys:=[entA e]) rfl (fun _ _ h=>h) hV0 e2 rfl rfl ⟨⟨_,_,rfl,rfl,rfl,rfl,rfl⟩⟩ rfl (by simp [maxLen];omega) (by simp;omega) fun a' ob' hV=>?_)|apply qm|apply qg|apply qh|apply ql|apply qi|(apply qt;(iterate 3 exact rfl))|(apply qe;exact rfl;apply vj;exact cAo)|(apply qe;exact rfl;apply wm;exact cAo)|(apply ja;(iterate 4 exact rfl))|apply qw|apply q6)
 rcases qto hV with⟨q,_,_⟩ | ⟨ver',cap',pad',rfl,rfl,q1,q2,q3,q4⟩
 ·simp at q
 ·obtain⟨cap',rfl⟩:∃ c,cap'=c+1:=⟨cap' - 1,by simp at q3;omega⟩
  refine qn rfl (zh rfl) ?_
  show OwnR 4 109 _ st _ (.os o ver' 0 _ (cap'+1)) (st.set o _)
  exact⟨.inr ⟨o,ver',cap',pad',rfl,ke e2,q1,q2,q3,q4⟩,by simp,fun j hj b8=>List.getElem?_set_ne fun e=>b8 (by rw [e];rfl),fun o' d7=>.inr d7⟩
theorem q0n (w:World) (a b:Addr) (la ca lb cb:Nat) (tA tB:TypeId) (kA kB:Nat) (h1:a.block≠b.block) (h2:w.shape? a.block=some (tA,kA)) (h3:w.shape? b.block=some (tB,kB)) (h4:kA≠0) (h5:w.frozen? b=false) (h6:w.frozen? { block:=b.block,off:=kB }=false) :
  (callFunc 198 #[.slice (some a) la ca,.slice (some b) lb cb]).run E.P w = .ok (.value (.bool false)) w:=by
 have hz:∀ w,(Go.sizeOf 109).run E.P w = .ok 4 w:=fun w=>(kw (agg:=true) rfl w).1
 rw [run_callFunc_extern (P:=E.P) Tryz.func198 (by kernel_rfl) (by kernel_rfl) (by kernel_rfl) (e:=Extern.SlicesOverlaps.overlaps #[103,103] #[4]) (by kernel_rfl),
  qqt w 103 4 109 rfl 4 hz a b la ca lb cb h1 tA tB kA kB h2 h3 h4 h5 h6]
 rfl
structure InsB (es:List EntV) (e:EntV) (i cap:Nat) (pad:List AV):Prop where
 t4:(flat ((es.take i).map entA)).length=i * 4
 d4:(flat ((es.drop i).map entA)).length=(es.length - i) * 4
 split:flat (es.map entA)++pad=flat ((es.take i).map entA)++(flat ((es.drop i).map entA)++pad)
 take:(flat (es.map entA)++pad).take (i * 4)=flat ((es.take i).map entA)
 drop:((flat (es.map entA)++pad).drop (0+i * 4)).take ((es.length - i) * 4)=flat ((es.drop i).map entA)
 new:flat ((es.take i++e::es.drop i).map entA)=flat ((es.take i).map entA)++flat [entA e]++flat ((es.drop i).map entA)
 nl:(es.take i++e::es.drop i).length=es.length+1
 src:∀ o ver L c' (S:List AObj),(flat (es.map entA)++pad).length=(cap+1) * 4→es.length≤cap+1→S[o]? = some (.cells ver 109 (flat (es.map entA)++pad))→SrcA S 4 (.os o ver (0+i * 4) L c') L (es.length - i) (flat ((es.drop i).map entA))
theorem insB (es:List EntV) (e:EntV) (i cap:Nat) (pad:List AV) (hi:i<es.length):InsB es e i cap pad:=by
 have pc:(flat ((es.take i).map entA)).length=i * 4:=by rw [qcs,List.length_take,Nat.min_eq_left (by omega)]
 have pq:(flat ((es.drop i).map entA)).length=(es.length - i) * 4:=by rw [qcs,List.length_drop]
 have o9:flat (es.map entA)++pad=flat ((es.take i).map entA)++(flat ((es.drop i).map entA)++pad):=by
  rw [← List.append_assoc,← qgl,List.take_append_drop]
 have sk:((flat (es.map entA)++pad).drop (0+i * 4)).take ((es.length - i) * 4)=flat ((es.drop i).map entA):=by rw [Nat.zero_add,o9,← pc,List.drop_left,← pq,List.take_left]
 refine⟨pc,pq,o9,by rw [o9,← pc,List.take_left],sk,?_,by simp;omega,fun o ver L c' S e3 e5 hS=>?_⟩
 ·rw [qgl]
  simp [flat]
 ·have:=SrcA.os (st:=S) (sz:=4) o ver (0+i * 4) L c' (es.length - i) _ _ hS (by rw [e3];omega) (by rw [sk];exact qb4 fun _=>rfl)
  rw [sk] at this;exact this
set_option maxHeartbeats 4000000 in
theorem zha (es:List EntV) (e:EntV) (i:Nat) (hi:i<es.length) (hl:es.length<1000000) (st:List AObj) (o ver cap:Nat) (pad:List AV) (e2:st[o]? = some (.cells ver 109 (flat (es.map entA)++pad))) (e3:(flat (es.map entA)++pad).length=(cap+1) * 4) (e5:es.length+1≤cap+1) (e6:cap+1≤maxLen) :
  qo E 171 [.os o ver 0 es.length (cap+1),Iv i,.sl 4 [entA e] none] st fun r st'=>OwnR 4 109 ((es.take i++e::es.drop i).map entA) st (.os o ver 0 es.length (cap+1)) r st':=by
 have hI:=insB es e i cap pad hi;have d6:=lt_of_getElem? e2;have sn:(flat [entA e]).length=4:=rfl;have pc:=hI.t4;have pq:=hI.d4;have sr:(if cap+1=i then 0 else 0+i * 4)=0+i * 4:=if_neg (by omega);have bv:(if cap+1=i+1 then 0 else 0+(i+1) * 4)=(i+1) * 4:=by rw [if_neg (by omega)];omega
 obtain⟨B1,mw⟩:∃ B1,(flat ((es.drop i).map entA)++pad).drop 4=B1:=⟨_,rfl⟩;obtain⟨A1,bq⟩:∃ A1,(flat ((es.drop i).map entA)++pad).take 4=A1:=⟨_,rfl⟩
 have hA1l:A1.length=4:=by
  rw [← bq,List.length_take,List.length_append,pq];omega
 obtain⟨X1,hX1⟩:∃ X1,flat ((es.take i).map entA)++A1++flat ((es.drop i).map entA)++B1.drop ((es.length - i) * 4)=X1:=⟨_,rfl⟩
 have gz:zr (flat (es.map entA)++pad) ((i+1) * 4) (flat ((es.drop i).map entA))=X1:=by
  have e1:flat (es.map entA)++pad=(flat ((es.take i).map entA)++A1)++B1:=by rw [hI.split,List.append_assoc,← bq,← mw,List.take_append_drop]
  rw [e1,qdp _ _ _ (by rw [List.length_append,pc,hA1l];omega),pq,hX1]
 have ft:zr X1 (0+i * 4) (flat [entA e])=flat ((es.take i++e::es.drop i).map entA)++B1.drop ((es.length - i) * 4):=by
  have e1:X1=flat ((es.take i).map entA)++(A1++(flat ((es.drop i).map entA)++B1.drop ((es.length - i) * 4))):=by rw [← hX1];simp
  rw [e1,qdp _ _ _ (by rw [pc];omega),sn,List.drop_append_of_le_length (by omega),List.drop_eq_nil_of_le (by omega:A1.length≤4),hI.new];simp
 have hsl1:X1.length=(cap+1) * 4:=by
  rw [← gz,qhp (by rw [e3,pq];omega),e3]
 have hsl2:(flat ((es.take i++e::es.drop i).map entA)++B1.drop ((es.length - i) * 4)).length=(cap+1) * 4:=by
  rw [← ft,qhp (by rw [hsl1,sn];omega),hsl1]
 have l6:=hI.src o ver (es.length+1 - i) (cap+1 - i) st e3 (by omega) e2;have ml:=hI.nl;generalize hXn:flat ((es.take i++e::es.drop i).map entA)++B1.drop ((es.length - i) * 4)=Xn at ft hsl2;clear hX1 mw bq hI pc pq;generalize hdz:flat ((es.drop i).map entA)=dz at gz l6;refine qr Tryz.func171 rfl (Nat.le_of_ble_eq_true rfl) ?_;rw [List.append_nil];generalize flat (es.map entA)++pad=X0 at e2 e3 gz;repeat' (first|apply qm|apply qg|apply qh|apply ql|apply qi)
 refine zu (o:=o) (ver:=ver) (off:=0) (len:=es.length) (cap:=cap+1) (sz:=4) (i:=i) (j:=es.length) (m:=cap+1) rfl rfl rfl ?_ ?_ ?_ (by omega) (by omega) (by omega) ?_
 ·exact⟨_,rfl⟩
 ·exact⟨rfl,rfl⟩
 ·exact rfl
 repeat' (first|(apply ja (n:=1);(iterate 4 exact rfl))|apply qm|apply qg|apply qh|apply ql|apply qi|(apply qt;(iterate 3 exact rfl))|(apply qe;exact rfl;apply wm;exact cAo)|(apply ja;(iterate 4 exact rfl))|(apply zn;exact rfl;exact rfl;exact zb (by omega) (by omega))|apply qw)
 refine qrb rfl rfl rfl ?_;repeat' (first|apply qm|apply qg|apply qh|apply ql|(apply qt;(iterate 3 exact rfl))|(apply qe;exact rfl;apply wm;exact cAo)|(apply zn;exact rfl;exact rfl;exact zb (by omega) (by omega))|apply qw)
 refine zu (o:=o) (ver:=ver) (off:=0) (len:=es.length) (cap:=cap+1) (sz:=4) (i:=0) (j:=es.length+1) (m:=cap+1) rfl rfl rfl ?_ ?_ ?_ (by omega) (by omega) (by omega) ?_
 ·exact rfl
 ·exact⟨_,rfl⟩
 ·exact rfl
 repeat' (first|apply qm|apply qg|apply qh|apply ql|apply qi|(apply zn;exact rfl;exact rfl;exact zb (by omega) (by omega)))
 refine zu (o:=o) (ver:=ver) (off:=0) (len:=es.length+1) (cap:=cap+1) (sz:=4) (i:=i+1) (j:=es.length+1) (m:=cap+1) rfl rfl rfl ?_ ?_ ?_ (by omega) (by omega) (by omega) ?_
 ·exact⟨_,rfl⟩
 ·exact⟨rfl,rfl⟩
 ·exact rfl
 rw [bv];repeat' (first|(apply zb6;first|apply qm|apply qu|apply qg|(apply qe;exact rfl;apply vj;exact cAo)|(apply qe;exact rfl;apply wm;exact cAo)|(apply qe;exact rfl;apply qoa;exact cRa)|(apply qe;exact rfl;apply qrp;exact cRa)|(apply qe;exact rfl;apply cd_n <;> intro h)|(apply qe;exact rfl;apply cd_t;exact cRa)|(apply qe;exact rfl;apply cd_f;exact cRa)|(apply qe;exact rfl;apply cd_d <;> intro h)|(apply qe;exact rfl;apply cd_s <;> intro h)|apply qw|apply jg|apply q6)|(apply q59;first|(apply zm;(iterate 4 exact rfl))|(apply qh2;(iterate 4 exact rfl)))|(apply zfn;first|(apply qfs;exact cAo)|(apply qbj;exact cAo)|(apply qa7;exact cAo)|(apply qna;exact cAo)|(apply qv1;exact cRa)|(apply qgo;exact cRa)|(apply qld;exact cRa)|(apply qr8;exact cRa)|(apply qr9 <;> intro h)|(apply qeb;exact cRa)|(apply qzr;exact cRa)|(apply qnb;exact cRa)|(apply qer;exact cRa)|(apply yp <;> intro h)|(apply qqa <;> intro h))|(apply zfm;first|apply qgg|(apply q3v;(iterate 4 exact rfl))|(apply q74;exact rfl;exact rfl;exact zb (by omega) (by omega))|(apply q3x;(iterate 4 exact rfl);exact cAs;exact cAs)|(apply qo4;(iterate 5 exact rfl))|(apply qiv;exact rfl;exact rfl;exact cOs)|(apply qe7;(iterate 3 exact rfl))|(apply qo3;(iterate 5 exact rfl))|(apply qiw;(iterate 4 exact rfl))|(apply qrj;(iterate 3 exact rfl))|(apply q72;(iterate 3 exact rfl);exact cAs)|(apply q3w;exact rfl;exact rfl)|(apply qyq;exact rfl;exact rfl)|(apply qyr;(iterate 3 exact rfl);omega)|(apply qu5;(iterate 3 exact rfl))|apply qej|apply qmu|(apply qyp;exact rfl;exact rfl;exact zb (by omega) (by omega))|(apply zew;(iterate 3 exact rfl))|(apply q3y;(iterate 3 exact rfl);exact cAs)|(apply q3u;(iterate 3 exact rfl);exact cAs)|(apply q5j;exact rfl;exact rfl))|(apply q58;first|(apply qt;(iterate 3 exact rfl))|(apply kr;(iterate 3 exact rfl))|(apply vf;exact rfl;exact rfl;exact cOs)|(apply zn;exact rfl;exact rfl;exact zb (by omega) (by omega))|(apply yj;exact rfl;exact rfl;exact zb (by omega) (by omega))|(apply y4;exact rfl;exact rfl)|(apply x8;exact rfl;exact rfl)|(apply qaq;exact rfl;exact rfl)|(apply qdz;exact rfl;exact rfl)|(apply qas;(iterate 3 exact rfl))|(apply qmd;(iterate 3 exact rfl))|(apply qdb;exact rfl;exact rfl;(first|exact jv _|exact rfl);first|exact jv _|exact rfl)|(apply qk3;exact rfl;exact rfl;(first|exact jv _|exact rfl);first|exact jv _|exact rfl)|(apply q7z;exact rfl;exact rfl;(first|exact jv _|exact rfl);first|exact jv _|exact rfl)|(apply qe4;(iterate 3 exact rfl))|(apply qg7;(iterate 3 exact rfl)))|(apply q8y;first|(apply jo;(iterate 3 exact rfl))|(apply qmc;(iterate 5 exact rfl))|(apply jf;(iterate 5 exact rfl)))|(apply q8z;first|(apply qrf;exact rfl)|(apply kp;exact rfl)|(apply qh1;exact rfl))|(apply q6a;first|(apply qiu;(iterate 3 exact rfl);exact cAs)|(apply qmt;(iterate 3 exact rfl);exact cAs)|(apply qit;(iterate 4 exact rfl);exact cAs;exact cAs)|(apply qkf;(iterate 4 exact rfl);(first|assumption|omega|exact Nat.succ_le_succ (Nat.zero_le _)|(simp;omega));exact rfl))|(apply q8x;first|(apply jy;(iterate 3 exact rfl))|(apply ja;(iterate 4 exact rfl)))|(apply qt6;first|(apply zg;(iterate 3 exact rfl))|(apply y7;(iterate 4 exact rfl)))|(apply q6b;first|(apply qfn;(iterate 11 exact rfl))|(apply z4;(iterate 11 exact rfl)))|(apply zb7;first|apply qh|apply ql|apply qi|(apply zz;exact rfl;exact rfl)|(apply qx;exact rfl;apply qdj;exact cAo)|(apply qx;exact rfl;apply qd4;exact cAo)|(apply qx;exact rfl;apply qxw;exact cRa)|(apply qx;exact rfl;apply qoo;exact cRa)|(apply qx;exact rfl;apply pk_t;exact cRa)|(apply qx;exact rfl;apply pk_f;exact cRa)|(apply v7;exact rfl;exact rfl)|apply qgy|(apply jp;exact rfl;exact rfl)|(apply qbe;(iterate 4 exact rfl))|(apply qk4;(iterate 3 exact rfl))|(apply xn;(iterate 3 exact rfl);exact cAs)|(apply xk;(iterate 3 exact rfl))|(apply xc;(iterate 9 exact rfl))|(apply wy;exact rfl;exact rfl)|(apply qjv;(iterate 4 exact rfl);(first|assumption|omega|decide);exact rfl)|(apply qcl;(iterate 4 exact rfl);first|assumption|omega|decide)))
 refine qw8 (xs:=[entA e]) (o:=o) (ver:=ver) rfl rfl e2 (by simp [flat,AV.cells]) q0n ?_;repeat' (first|apply qm|apply qh|(apply kp;exact rfl)|(apply qe;exact rfl;apply qoa;exact cRa))
 refine qek [(0,.os o ver 0 (es.length+1) (cap+1)),(1,Iv i),(2,.sl 4 [entA e] none),(7,Iv 1)] st [] ⟨rfl,rfl,rfl,rfl,trivial⟩ rfl rfl fun t=>?_;refine qtz (fun s=>StA [(0,.os o ver 0 (es.length+1) (cap+1)),(1,Iv i),(2,.sl 4 [entA e] none)] (st.set o (.cells ver 109 X1)) [] s) ?_ ?_
 ·refine qiy rfl rfl ?_
  (apply x5 0;exact rfl;kernel_rfl;kernel_rfl;kernel_rfl;exact rfl;exact yy)
  (apply x5 1;exact rfl;kernel_rfl;kernel_rfl;kernel_rfl;exact rfl;exact yy)
  (apply x5 2;exact rfl;kernel_rfl;kernel_rfl;kernel_rfl;exact rfl;exact yy)
  (apply x5 5;exact rfl;kernel_rfl;kernel_rfl;kernel_rfl;exact rfl;exact yy)
  (apply x5 6;exact rfl;kernel_rfl;kernel_rfl;kernel_rfl;exact rfl;exact yy)
  refine wl [3,7] (by kernel_rfl) rfl ⟨⟨_,rfl,?_⟩,⟨_,rfl,?_⟩,trivial⟩
  ·(apply zn;exact rfl;exact rfl;exact zb (by omega) (by omega))
   apply qh;refine wl [4,7] (by kernel_rfl) rfl ⟨⟨_,rfl,?_⟩,⟨_,rfl,?_⟩,trivial⟩
   ·(refine zu (o:=o) (ver:=ver) (off:=0) (len:=es.length+1) (cap:=cap+1) (sz:=4) (i:=i+1) (j:=es.length+1) (m:=cap+1) rfl rfl rfl ?_ ?_ ?_ (by omega) (by omega) (by omega) ?_;exact⟨_,rfl⟩;exact⟨rfl,rfl⟩;exact rfl;rw [bv])
    apply qh;refine wl [7] (by kernel_rfl) rfl ⟨⟨_,rfl,?_⟩,trivial⟩
    (refine zu (o:=o) (ver:=ver) (off:=0) (len:=es.length+1) (cap:=cap+1) (sz:=4) (i:=i) (j:=es.length+1) (m:=cap+1) rfl rfl rfl ?_ ?_ ?_ (by omega) (by omega) (by omega) ?_;exact⟨_,rfl⟩;exact⟨rfl,rfl⟩;exact rfl;rw [sr])
    apply qh;refine wl [8] (by kernel_rfl) rfl ⟨⟨_,rfl,?_⟩,trivial⟩
    (refine qaa (o:=o) (ver:=ver) (off:=(i+1) * 4) (sz:=4) (bytes:=56) (m:=es.length - i) rfl rfl e2 l6 ?_ rfl ⟨⟨_,_,rfl,rfl,rfl,rfl,rfl⟩⟩ ?_ ?_;(show min _ _=_;omega);(rw [e3];omega);rw [gz])
    apply qh;refine qce (by kernel_rfl) ?_;exact jd ⟨rfl,rfl,rfl,trivial⟩
   ·(refine zu (o:=o) (ver:=ver) (off:=0) (len:=es.length+1) (cap:=cap+1) (sz:=4) (i:=i) (j:=es.length+1) (m:=cap+1) rfl rfl rfl ?_ ?_ ?_ (by omega) (by omega) (by omega) ?_;exact⟨_,rfl⟩;exact⟨rfl,rfl⟩;exact rfl;rw [sr])
    apply qh;refine wl [4] (by kernel_rfl) rfl ⟨⟨_,rfl,?_⟩,trivial⟩
    (refine zu (o:=o) (ver:=ver) (off:=0) (len:=es.length+1) (cap:=cap+1) (sz:=4) (i:=i+1) (j:=es.length+1) (m:=cap+1) rfl rfl rfl ?_ ?_ ?_ (by omega) (by omega) (by omega) ?_;exact⟨_,rfl⟩;exact⟨rfl,rfl⟩;exact rfl;rw [bv])
    apply qh;refine wl [8] (by kernel_rfl) rfl ⟨⟨_,rfl,?_⟩,trivial⟩
    (refine qaa (o:=o) (ver:=ver) (off:=(i+1) * 4) (sz:=4) (bytes:=56) (m:=es.length - i) rfl rfl e2 l6 ?_ rfl ⟨⟨_,_,rfl,rfl,rfl,rfl,rfl⟩⟩ ?_ ?_;(show min _ _=_;omega);(rw [e3];omega);rw [gz])
    apply qh;refine qce (by kernel_rfl) ?_;exact jd ⟨rfl,rfl,rfl,trivial⟩
  ·(refine zu (o:=o) (ver:=ver) (off:=0) (len:=es.length+1) (cap:=cap+1) (sz:=4) (i:=i) (j:=es.length+1) (m:=cap+1) rfl rfl rfl ?_ ?_ ?_ (by omega) (by omega) (by omega) ?_;exact⟨_,rfl⟩;exact⟨rfl,rfl⟩;exact rfl;rw [sr])
   apply qh;refine wl [3] (by kernel_rfl) rfl ⟨⟨_,rfl,?_⟩,trivial⟩
   (apply zn;exact rfl;exact rfl;exact zb (by omega) (by omega))
   apply qh;refine wl [4] (by kernel_rfl) rfl ⟨⟨_,rfl,?_⟩,trivial⟩
   (refine zu (o:=o) (ver:=ver) (off:=0) (len:=es.length+1) (cap:=cap+1) (sz:=4) (i:=i+1) (j:=es.length+1) (m:=cap+1) rfl rfl rfl ?_ ?_ ?_ (by omega) (by omega) (by omega) ?_;exact⟨_,rfl⟩;exact⟨rfl,rfl⟩;exact rfl;rw [bv])
   apply qh;refine wl [8] (by kernel_rfl) rfl ⟨⟨_,rfl,?_⟩,trivial⟩
   (refine qaa (o:=o) (ver:=ver) (off:=(i+1) * 4) (sz:=4) (bytes:=56) (m:=es.length - i) rfl rfl e2 l6 ?_ rfl ⟨⟨_,_,rfl,rfl,rfl,rfl,rfl⟩⟩ ?_ ?_;(show min _ _=_;omega);(rw [e3];omega);rw [gz])
   apply qh;refine qce (by kernel_rfl) ?_;exact jd ⟨rfl,rfl,rfl,trivial⟩
 ·rintro _ ⟨t,rfl⟩
  have u7:(st.set o (AObj.cells ver 109 X1))[o]? = some (.cells ver 109 X1):=ke e2;repeat' (first|apply qm|apply qg|apply ql)
  refine zu (o:=o) (ver:=ver) (off:=0) (len:=es.length+1) (cap:=cap+1) (sz:=4) (i:=i) (j:=es.length+1) (m:=cap+1) rfl rfl rfl ?_ ?_ ?_ (by omega) (by omega) (by omega) ?_
  ·exact⟨_,rfl⟩
  ·exact⟨rfl,rfl⟩
  ·exact rfl
  rw [sr];repeat' (first|apply ql)
  refine qaa (o:=o) (ver:=ver) (off:=0+i * 4) (sz:=4) (bytes:=56) (L:=1) (m:=1) rfl rfl u7 (.sl [entA e] none rfl) ?_ rfl ⟨⟨_,_,rfl,rfl,rfl,rfl,rfl⟩⟩ ?_ ?_
  ·show min _ _=_
   omega
  ·rw [hsl1]
   omega
  rw [ft];repeat' (first|apply qm|apply qg|apply qh|apply ql|apply qi|apply q6)
  refine qn rfl (zh rfl) ?_
  show OwnR 4 109 _ st _ (.os o ver 0 (es.length+1) (cap+1)) ((st.set o _).set o (.cells ver 109 Xn))
  rw [List.set_set,← hXn];rw [← hXn] at hsl2;exact⟨.inr ⟨o,ver,cap,_,by rw [List.length_map,ml],ke e2,hsl2,qh6 _,by rw [List.length_map,ml];omega,e6⟩,by simp,fun j hj b8=>List.getElem?_set_ne fun e=>b8 (by rw [e];rfl),fun o' d7=>.inr d7⟩
set_option maxHeartbeats 4000000 in
theorem zg9 (es:List EntV) (e:EntV) (i:Nat) (hi:i<es.length) (hl:es.length<1000000) (st:List AObj) (o ver cap:Nat) (pad:List AV) (e2:st[o]? = some (.cells ver 109 (flat (es.map entA)++pad))) (e3:(flat (es.map entA)++pad).length=(cap+1) * 4) (e5:es.length=cap+1) (e6:cap+1≤maxLen) :
  qo E 171 [.os o ver 0 es.length (cap+1),Iv i,.sl 4 [entA e] none] st fun r st'=>OwnR 4 109 ((es.take i++e::es.drop i).map entA) st (.os o ver 0 es.length (cap+1)) r st':=by
 have hI:=insB es e i cap pad hi;have d6:=lt_of_getElem? e2;have sn:(flat [entA e]).length=4:=rfl;have pc:=hI.t4;have pq:=hI.d4;have pd:=hI.take;have sr:(if cap+1=i then 0 else 0+i * 4)=0+i * 4:=if_neg (by omega);have l6:=fun S=>hI.src o ver (es.length - i) (cap+1 - i) S e3 (by omega);have ml:=hI.nl;have m4:=hI.new;have hk9:Iv ((es.length:Int)+1 - i)=Iv ((es.length+1 - i:Nat):Int):=congrArg (fun z:Int=>Iv z) (by omega);have hkk:i+(es.length+1 - i)=es.length+1:=by omega
 generalize flat ((es.drop i).map entA)=dz at l6 pq m4;refine qr Tryz.func171 rfl (Nat.le_of_ble_eq_true rfl) ?_;rw [List.append_nil];generalize flat (es.map entA)++pad=X0 at e2 e3 pd l6;repeat' (first|apply qm|apply qg|apply qh|apply ql|apply qi)
 refine zu (o:=o) (ver:=ver) (off:=0) (len:=es.length) (cap:=cap+1) (sz:=4) (i:=i) (j:=es.length) (m:=cap+1) rfl rfl rfl ?_ ?_ ?_ (by omega) (by omega) (by omega) ?_
 ·exact⟨_,rfl⟩
 ·exact⟨rfl,rfl⟩
 ·exact rfl
 repeat' (first|(apply ja (n:=1);(iterate 4 exact rfl))|apply qm|apply qg|apply qh|apply ql|apply qi|(apply qt;(iterate 3 exact rfl))|(apply qe;exact rfl;apply wm;exact cAo)|(apply ja;(iterate 4 exact rfl))|(apply zn;exact rfl;exact rfl;exact zb (by omega) (by omega))|apply qw)
 refine qrb rfl rfl rfl ?_;refine qrg [(0,.os o ver 0 es.length (cap+1)),(1,Iv i),(2,.sl 4 [entA e] none),(7,Iv 1),(8,Iv es.length),(28,Iv ((es.length:Int)+1)),(30,Iv ((cap+1:Nat):Int))] st [] ⟨rfl,rfl,rfl,rfl,rfl,rfl,rfl,trivial⟩ rfl rfl fun t=>?_;repeat' (first|apply qm|apply qg|apply qh|apply ql|(apply qt;(iterate 3 exact rfl))|(apply qe;exact rfl;apply vj;exact cAo))
 refine zu (o:=o) (ver:=ver) (off:=0) (len:=es.length) (cap:=cap+1) (sz:=4) (i:=0) (j:=i) (m:=cap+1) rfl rfl rfl ?_ ?_ ?_ (by omega) (by omega) (by omega) ?_
 ·exact rfl
 ·exact⟨_,rfl⟩
 ·exact rfl
 repeat' (first|apply ql|(apply zn;exact rfl;exact rfl;exact zb (by omega) (by omega))|(apply yj;exact rfl;exact rfl;exact zb (by omega) (by omega)))
 refine qpu (sz:=4) (bytes:=56) (o:=o) (ver:=ver) (n:=i) (cap:=cap+1) (k:=es.length+1 - i) (cs:=X0) rfl hk9 e2 rfl rfl ⟨⟨_,_,rfl,rfl,rfl,rfl,rfl⟩⟩ (by omega) (by omega) (by omega) (by rw [e3];omega) (by simp only [maxLen];omega) (by omega) fun cap' zs z1 z2 z3=>?_;rw [hkk,pd];refine qrg [(0,.os o ver 0 es.length (cap+1)),(1,Iv i),(2,.sl 4 [entA e] none),(7,Iv 1),(40,.os st.length 0 0 (es.length+1) cap')] (st++[.cells 0 109 (flat ((es.take i).map entA)++zs)]) [] ⟨rfl,rfl,rfl,rfl,rfl,trivial⟩ rfl rfl fun t=>?_;obtain⟨cap',rfl⟩:∃ c,cap'=c+1:=⟨cap' - 1,by omega⟩;have hi3:(if cap'+1=i then 0 else 0+i * 4)=0+i * 4:=if_neg (by omega);have hi4:(if cap'+1=i+1 then 0 else 0+(i+1) * 4)=(i+1) * 4:=by rw [if_neg (by omega)];omega
 have gz:zr (flat ((es.take i).map entA)++zs) (0+i * 4) (flat [entA e])=(flat ((es.take i).map entA)++flat [entA e])++zs.drop 4:=qdp _ _ _ (by rw [pc];omega)
 have ft:zr ((flat ((es.take i).map entA)++flat [entA e])++zs.drop 4) ((i+1) * 4) dz=flat ((es.take i++e::es.drop i).map entA)++(zs.drop 4).drop dz.length:=by
  rw [qdp _ _ _ (by rw [List.length_append,pc,sn];omega),m4]
 have o7:((flat ((es.take i).map entA)++flat [entA e])++zs.drop 4).length=(cap'+1) * 4:=by
  simp only [List.length_append,List.length_drop,pc,sn,z1];omega
 have ck:(flat ((es.take i++e::es.drop i).map entA)++(zs.drop 4).drop dz.length).length=(cap'+1) * 4:=by
  rw [← ft,qhp (by rw [o7,pq];omega),o7]
 have hl0:(flat ((es.take i).map entA)++zs).length=(cap'+1) * 4:=by
  rw [List.length_append,pc,z1];omega
 repeat' (first|apply qm|apply qg|apply qh|apply ql|apply qi)
 refine zu (o:=st.length) (ver:=0) (off:=0) (len:=es.length+1) (cap:=cap'+1) (sz:=4) (i:=i) (j:=es.length+1) (m:=cap'+1) rfl rfl rfl ?_ ?_ ?_ (by omega) (by omega) (by omega) ?_
 ·exact⟨_,rfl⟩
 ·exact⟨rfl,rfl⟩
 ·exact rfl
 rw [hi3];repeat' (first|apply ql)
 refine qaa (o:=st.length) (ver:=0) (off:=0+i * 4) (sz:=4) (bytes:=56) (L:=1) (m:=1) rfl rfl wh (.sl [entA e] none rfl) ?_ rfl ⟨⟨_,_,rfl,rfl,rfl,rfl,rfl⟩⟩ ?_ ?_
 ·show min _ _=_
  omega
 ·rw [hl0]
  omega
 rw [gz];generalize hX1:(flat ((es.take i).map entA)++flat [entA e])++zs.drop 4=X1 at ft o7;have hbo:(st++[AObj.cells 0 109 (flat ((es.take i).map entA)++zs)])[st.length]? = some (.cells 0 109 (flat ((es.take i).map entA)++zs)):=wh;have rz:((st++[AObj.cells 0 109 (flat ((es.take i).map entA)++zs)]).set st.length (.cells 0 109 X1))[st.length]? = some (.cells 0 109 X1):=ke hbo
 have hS1o:((st++[AObj.cells 0 109 (flat ((es.take i).map entA)++zs)]).set st.length (.cells 0 109 X1))[o]? = some (.cells ver 109 X0):=by
  rw [List.getElem?_set_ne (by omega),List.getElem?_append_left d6];exact e2
 have hS1j:∀ j,j<st.length→((st++[AObj.cells 0 109 (flat ((es.take i).map entA)++zs)]).set st.length (.cells 0 109 X1))[j]? = st[j]?:=fun j hj=>by
  rw [List.getElem?_set_ne (by omega),List.getElem?_append_left hj]
 have hS1l:((st++[AObj.cells 0 109 (flat ((es.take i).map entA)++zs)]).set st.length (.cells 0 109 X1)).length=st.length+1:=by simp
 repeat' (first|apply qm|apply qh)
 refine qek [(0,.os o ver 0 es.length (cap+1)),(1,Iv i),(7,Iv 1),(9,.os st.length 0 0 (es.length+1) (cap'+1))] ((st++[AObj.cells 0 109 (flat ((es.take i).map entA)++zs)]).set st.length (.cells 0 109 X1)) [] ⟨rfl,rfl,rfl,rfl,trivial⟩ rfl rfl fun t=>?_;generalize (st++[AObj.cells 0 109 (flat ((es.take i).map entA)++zs)]).set st.length (.cells 0 109 X1)=S1 at rz hS1o hS1j hS1l;refine qtz (fun s=>StA [(9,.os st.length 0 0 (es.length+1) (cap'+1))] (S1.set st.length (.cells 0 109 (flat ((es.take i++e::es.drop i).map entA)++(zs.drop 4).drop dz.length))) [] s) ?_ ?_
 ·refine qiy rfl rfl ?_
  (apply x5 0;exact rfl;kernel_rfl;kernel_rfl;kernel_rfl;exact rfl;exact yy)
  (apply x5 1;exact rfl;kernel_rfl;kernel_rfl;kernel_rfl;exact rfl;exact yy)
  (apply x5 2;exact rfl;kernel_rfl;kernel_rfl;kernel_rfl;exact rfl;exact yy)
  (apply x5 5;exact rfl;kernel_rfl;kernel_rfl;kernel_rfl;exact rfl;exact yy)
  (apply x5 6;exact rfl;kernel_rfl;kernel_rfl;kernel_rfl;exact rfl;exact yy)
  refine wl [3,7] (by kernel_rfl) rfl ⟨⟨_,rfl,?_⟩,⟨_,rfl,?_⟩,trivial⟩
  ·(apply zn;exact rfl;exact rfl;exact zb (by omega) (by omega))
   apply qh;refine wl [4,7] (by kernel_rfl) rfl ⟨⟨_,rfl,?_⟩,⟨_,rfl,?_⟩,trivial⟩
   ·(refine zu (o:=st.length) (ver:=0) (off:=0) (len:=es.length+1) (cap:=cap'+1) (sz:=4) (i:=i+1) (j:=es.length+1) (m:=cap'+1) rfl rfl rfl ?_ ?_ ?_ (by omega) (by omega) (by omega) ?_;exact⟨_,rfl⟩;exact⟨rfl,rfl⟩;exact rfl;rw [hi4])
    apply qh;refine wl [7] (by kernel_rfl) rfl ⟨⟨_,rfl,?_⟩,trivial⟩
    (refine zu (o:=o) (ver:=ver) (off:=0) (len:=es.length) (cap:=cap+1) (sz:=4) (i:=i) (j:=es.length) (m:=cap+1) rfl rfl rfl ?_ ?_ ?_ (by omega) (by omega) (by omega) ?_;exact⟨_,rfl⟩;exact⟨rfl,rfl⟩;exact rfl;rw [sr])
    apply qh;refine wl [8] (by kernel_rfl) rfl ⟨⟨_,rfl,?_⟩,trivial⟩
    (refine qaa (o:=st.length) (ver:=0) (off:=(i+1) * 4) (sz:=4) (bytes:=56) (m:=es.length - i) rfl rfl rz (l6 S1 hS1o) ?_ rfl ⟨⟨_,_,rfl,rfl,rfl,rfl,rfl⟩⟩ ?_ ?_;(show min _ _=_;omega);(rw [o7];omega);rw [ft])
    apply qh;refine qce (by kernel_rfl) ?_;exact jd ⟨rfl,trivial⟩
   ·(refine zu (o:=o) (ver:=ver) (off:=0) (len:=es.length) (cap:=cap+1) (sz:=4) (i:=i) (j:=es.length) (m:=cap+1) rfl rfl rfl ?_ ?_ ?_ (by omega) (by omega) (by omega) ?_;exact⟨_,rfl⟩;exact⟨rfl,rfl⟩;exact rfl;rw [sr])
    apply qh;refine wl [4] (by kernel_rfl) rfl ⟨⟨_,rfl,?_⟩,trivial⟩
    (refine zu (o:=st.length) (ver:=0) (off:=0) (len:=es.length+1) (cap:=cap'+1) (sz:=4) (i:=i+1) (j:=es.length+1) (m:=cap'+1) rfl rfl rfl ?_ ?_ ?_ (by omega) (by omega) (by omega) ?_;exact⟨_,rfl⟩;exact⟨rfl,rfl⟩;exact rfl;rw [hi4])
    apply qh;refine wl [8] (by kernel_rfl) rfl ⟨⟨_,rfl,?_⟩,trivial⟩
    (refine qaa (o:=st.length) (ver:=0) (off:=(i+1) * 4) (sz:=4) (bytes:=56) (m:=es.length - i) rfl rfl rz (l6 S1 hS1o) ?_ rfl ⟨⟨_,_,rfl,rfl,rfl,rfl,rfl⟩⟩ ?_ ?_;(show min _ _=_;omega);(rw [o7];omega);rw [ft])
    apply qh;refine qce (by kernel_rfl) ?_;exact jd ⟨rfl,trivial⟩
  ·(refine zu (o:=o) (ver:=ver) (off:=0) (len:=es.length) (cap:=cap+1) (sz:=4) (i:=i) (j:=es.length) (m:=cap+1) rfl rfl rfl ?_ ?_ ?_ (by omega) (by omega) (by omega) ?_;exact⟨_,rfl⟩;exact⟨rfl,rfl⟩;exact rfl;rw [sr])
   apply qh;refine wl [3] (by kernel_rfl) rfl ⟨⟨_,rfl,?_⟩,trivial⟩
   (apply zn;exact rfl;exact rfl;exact zb (by omega) (by omega))
   apply qh;refine wl [4] (by kernel_rfl) rfl ⟨⟨_,rfl,?_⟩,trivial⟩
   (refine zu (o:=st.length) (ver:=0) (off:=0) (len:=es.length+1) (cap:=cap'+1) (sz:=4) (i:=i+1) (j:=es.length+1) (m:=cap'+1) rfl rfl rfl ?_ ?_ ?_ (by omega) (by omega) (by omega) ?_;exact⟨_,rfl⟩;exact⟨rfl,rfl⟩;exact rfl;rw [hi4])
   apply qh;refine wl [8] (by kernel_rfl) rfl ⟨⟨_,rfl,?_⟩,trivial⟩
   (refine qaa (o:=st.length) (ver:=0) (off:=(i+1) * 4) (sz:=4) (bytes:=56) (m:=es.length - i) rfl rfl rz (l6 S1 hS1o) ?_ rfl ⟨⟨_,_,rfl,rfl,rfl,rfl,rfl⟩⟩ ?_ ?_;(show min _ _=_;omega);(rw [o7];omega);rw [ft])
   apply qh;refine qce (by kernel_rfl) ?_;exact jd ⟨rfl,trivial⟩
 ·rintro _ ⟨t,rfl⟩
  repeat' (first|apply qm|apply qg|apply qh|apply ql|apply qi|apply q6)
  refine qn rfl (zh rfl) ?_
  show OwnR 4 109 _ st _ (.os st.length 0 0 (es.length+1) (cap'+1)) (S1.set st.length (.cells 0 109 (flat ((es.take i++e::es.drop i).map entA)++(zs.drop 4).drop dz.length)))
  refine⟨.inr ⟨st.length,0,cap',_,by rw [List.length_map,ml],ke rz,ck,qh6 _,by rw [List.length_map,ml];omega,z3⟩,by rw [List.length_set,hS1l];omega,fun j hj _=>?_,fun o' d7=>?_⟩
  ·rw [List.getElem?_set_ne (by omega)]
   exact hS1j j hj
  ·simp only [zl,Option.some.injEq] at d7
   left;omega
theorem zar (es:List EntV) (e:EntV) (i:Nat) (hi:i≤es.length) (hl:es.length<1000000) (st:List AObj) (c:AV) (hc:OwnS st 4 109 (es.map entA) c):qo E 171 [c,Iv i,.sl 4 [entA e] none] st fun r st'=>OwnR 4 109 ((es.take i++e::es.drop i).map entA) st c r st':=by
 have i6:(es.map entA).length=es.length:=by simp
 have hap:i=es.length→(es.take i++e::es.drop i).map entA=es.map entA++[entA e]:=fun h=>by subst h;simp
 rcases hc with⟨h0,hnr⟩ | ⟨o,ver,cap,pad,rfl,e2,e3,e4,e5,e6⟩
 ·have hes:es=[]:=by simpa using h0
  subst hes;obtain rfl:i=0:=by simpa using hi
  rw [hap rfl];exact zg7 e st c hnr
 ·rw [i6] at e5 ⊢
  by_cases fc:i=es.length
  ·rw [hap fc]
   subst fc;exact zg8 es e hl st o ver cap pad e2 e3 e5 e6
  ·by_cases i5:es.length+1≤cap+1
   ·exact zha es e i (by omega) hl st o ver cap pad e2 e3 i5 e6
   ·exact zg9 es e i (by omega) hl st o ver cap pad e2 e3 (by omega) e6
end Go.Proofs.YtapblfabkbdgcaaGreatDoor
namespace Go.Pl
open Go Go.Proofs
def qhl (l:q9) (i:Nat) (x:za):q9:=match l.ents[i]? with
 |some e=>⟨l.ents.set i ⟨x,e.id⟩,l.next,l.many⟩
 |none=>l
def xg (l:q9) (id:Int) (fs:List Fld):ErrV×q9:=if atF l id<0 then (.num 7,l) else if zv fs = .no then (.no,qhl l (atF l id).toNat (xj fs)) else (zv fs,l)
def delL (l:q9) (i:Nat):q9:=⟨l.ents.take i++l.ents.drop (i+1),l.next,l.many - 1⟩
def delF (l:q9) (id:Int):ErrV×q9:=if atF l id<0 then (.num 7,l) else (.no,delL l (atF l id).toNat)
def insL (l:q9) (k:Nat) (x:za):q9:=⟨l.ents.take k++⟨x,l.next⟩::l.ents.drop k,l.next+1,l.many+1⟩
def insF (l:q9) (id:Int) (fs:List Fld):Int×ErrV×q9:=
 if atF l id<0∧id≠0 then (0,.num 7,l) else if zv fs = .no then (if 400≤l.many then (0,.num 11,l) else (l.next,.no,insL l (atF l id+1).toNat (xj fs))) else (0,zv fs,l)
structure LB (n:Nat) (l:q9):Prop where
 small:n<900000
 len:l.ents.length≤n
 nx0:1≤l.next
 nx1:l.next≤n+1
 mn0 : -(n:Int)≤l.many
 mn1:l.many≤n
theorem zdr {n:Nat} {l:q9} (h:LB n l) (hs:n+1<900000) (id:Int) (fs:List Fld):LB (n+1) (xg l id fs).2:=by
 have h1:=h.len;have h2:=h.nx0;have h3:=h.nx1;have h4:=h.mn0;have h5:=h.mn1;unfold xg;split
 ·exact⟨hs,by simp only;omega,h2,by simp only;omega,by simp only;omega,by simp only;omega⟩
 ·split
  ·unfold qhl
   split
   ·exact⟨hs,by simp;omega,h2,by simp only;omega,by simp only;omega,by simp only;omega⟩
   ·exact⟨hs,by simp only;omega,h2,by simp only;omega,by simp only;omega,by simp only;omega⟩
  ·exact⟨hs,by simp only;omega,h2,by simp only;omega,by simp only;omega,by simp only;omega⟩
theorem zfi {n:Nat} {l:q9} (h:LB n l) (hs:n+1<900000) (id:Int):LB (n+1) (delF l id).2:=by
 have h1:=h.len;have h2:=h.nx0;have h3:=h.nx1;have h4:=h.mn0;have h5:=h.mn1;unfold delF;split
 ·exact⟨hs,by simp only;omega,h2,by simp only;omega,by simp only;omega,by simp only;omega⟩
 ·exact⟨hs,by simp [delL];omega,h2,by simp only [delL];omega,by simp only [delL];omega,by simp only [delL];omega⟩
theorem zf0 {n:Nat} {l:q9} (h:LB n l) (hs:n+1<900000) (id:Int) (fs:List Fld):LB (n+1) (insF l id fs).2.2:=by
 have h1:=h.len;have h2:=h.nx0;have h3:=h.nx1;have h4:=h.mn0;have h5:=h.mn1;have same:LB (n+1) l:=⟨hs,by omega,h2,by omega,by omega,by omega⟩;unfold insF;split
 ·exact same
 ·split
  ·split
   ·exact same
   ·exact⟨hs,by simp [insL];omega,by simp only [insL];omega,by simp only [insL];omega,by simp only [insL];omega,by simp only [insL];omega⟩
  ·exact same
end Go.Pl
namespace Go.Proofs.YtapblfabkbdgcaaGreatDoor
open Go Go.Av Go.RowKit Go.Proofs Go.Pl
def oneF (l:q9) (x:qp):Int×ErrV×q9:=if x.kind=1 then (0,xg l x.id x.fields) else if x.kind=2 then (0,delF l x.id) else insF l x.id x.fields
theorem que {n:Nat} {l:q9} (h:LB n l) (hs:n+1<900000) (x:qp):LB (n+1) (oneF l x).2.2:=by
 unfold oneF;split
 ·exact zdr h hs _ _
 ·split
  ·exact zfi h hs _
  ·exact zf0 h hs _ _
theorem zf9 (l:q9) (hl:l.ents.length<1000000):ko E 86 [.a (vt l)] 0 (hpF []) ⟨.bx 0 0,j7 [],lstH 1 l++vh [],2⟩:=by
 refine wq [.a (vt l)] [] 0 (.bx 0 0) (lstH 1 l) 2 Tryz.func86 rfl rfl rfl rfl fun S F ρ=>?_;apply qf [19];repeat' (first|apply And.intro|(intro h;try exact cDd)|exact⟨Tryz.call127⟩|(refine Exists.intro _ ⟨q2i [.sl 4 (l.ents.map entA) none] _ (fun _=>rfl) (fun st=>q5w l.ents st hl),?_⟩)|exact cSd|apply qd [19]|refine exr ?_|refine qk ?_)
theorem zgh (n:Nat) (l:q9) (id:Int) (fs:List Fld) (hB:LB n l) (hK:KeyB fs) (hl:fs.length<1000000):ko E 128 [.bx 0 0,.i id,.a (zp fs)] 2 (hpF (lstH 1 l)) ⟨.a (errA (xg l id fs).1),j7 (lstH 1 l),lstH 2 (xg l id fs).2++vh (lstH 1 l),3⟩:=by
 refine wq [.bx 0 0,.i id,.a (zp fs)] (lstH 1 l) 2 (.a (errA (xg l id fs).1)) (lstH 2 (xg l id fs).2) 3 Tryz.func128 rfl rfl rfl rfl fun S F ρ=>?_;have d5:=hB.len;have cd:=hB.small;have h1:=qty l id (by omega);have h2:=fun st=>q4q fs st hK hl;unfold xg;rcases qkh l id with h | ⟨i,e,h,he,cj,hid1⟩
 ·rw [h] at h1 ⊢
  rw [if_pos (by decide)];apply qf [];repeat' (first|apply And.intro|(intro h;try exact cDd)|exact⟨Tryz.call168⟩|(refine jk h1 ?_)|exact cSd|apply qd []|refine exr ?_|refine qk ?_)
 ·rw [h] at h1 ⊢
  rw [if_neg (by omega)];have hm:(l.ents.map entA)[i]? = some (entA e):=by rw [List.getElem?_map,he];rfl
  have mg:=lt_of_getElem? hm;unfold xj at h2 ⊢
  cases hc:zv fs with
  |no=>
   rw [hc,if_pos rfl] at h2;rw [if_pos rfl,if_pos rfl];unfold qhl;rw [Int.toNat_natCast,he];apply qf [];repeat' (first|apply And.intro|(intro h;try exact cDd)|exact⟨Tryz.call168⟩|(refine jk h1 ?_)|exact⟨Tryz.call169⟩|refine cpe h2 ?_|(refine qbm (i:=i) rfl rfl rfl rfl rfl rfl (by omega) ?_)|(refine qji (i:=i) (j:=0) (z:=entA e) (z':=entA ⟨⟨3,z7 fs,fs⟩,e.id⟩) (u:=vr ⟨3,z7 fs,fs⟩) rfl rfl (fun _=>rfl) rfl rfl rfl hm rfl rfl ?_)|exact cSd|apply qd []|refine exr ?_|refine qk ?_)
   all_goals (simp [List.map_set];done)
  |num m=>
   rw [hc,if_neg (by simp)] at h2;rw [if_neg (by simp)];apply qf []
   repeat' (first|apply And.intro|(intro h;try exact cDd)|exact⟨Tryz.call168⟩|(refine jk h1 ?_)|exact⟨Tryz.call169⟩|refine cpe h2 ?_|exact cSd|apply qd []|refine exr ?_|refine qk ?_)
  |at' a m=>
   rw [hc,if_neg (by simp)] at h2;rw [if_neg (by simp)];apply qf [];repeat' (first|apply And.intro|(intro h;try exact cDd)|exact⟨Tryz.call168⟩|(refine jk h1 ?_)|exact⟨Tryz.call169⟩|refine cpe h2 ?_|exact cSd|apply qd []|refine exr ?_|refine qk ?_)
theorem zin (n:Nat) (l:q9) (id:Int) (hB:LB n l):ko E 129 [.bx 0 0,.i id] 2 (hpF (lstH 1 l)) ⟨.a (errA (delF l id).1),j7 (lstH 1 l),lstH 2 (delF l id).2++vh (lstH 1 l),3⟩:=by
 refine wq [.bx 0 0,.i id] (lstH 1 l) 2 (.a (errA (delF l id).1)) (lstH 2 (delF l id).2) 3 Tryz.func129 rfl rfl rfl rfl fun S F ρ=>?_;have d5:=hB.len;have cd:=hB.small;have h4:=hB.mn0;have h5:=hB.mn1;have h1:=qty l id (by omega);unfold delF;rcases qkh l id with h | ⟨i,e,h,he,cj,hid1⟩
 ·rw [h] at h1 ⊢
  rw [if_pos (by decide)];apply qf [];repeat' (first|apply And.intro|(intro h;try exact cDd)|exact⟨Tryz.call168⟩|(refine jk h1 ?_)|exact cSd|apply qd []|refine exr ?_|refine qk ?_)
 ·rw [h] at h1 ⊢
  rw [if_neg (by omega)];have mg:=lt_of_getElem? he;have h2:=qp1 (f:=170) (E:=E) (xs:=l.ents.map entA) [Iv i,Iv ((i:Int)+1)] rfl (fun st c hc=>zja l.ents i mg (by omega) st c hc);unfold delL;rw [Int.toNat_natCast];apply qf [];repeat' (first|apply And.intro|(intro h;try exact cDd)|exact⟨Tryz.call168⟩|(refine jk h1 ?_)|exact⟨Tryz.call170⟩|(refine jk h2 ?_)|exact cSd|apply qd []|refine exr ?_|refine qk ?_)
theorem zis (n:Nat) (l:q9) (id:Int) (fs:List Fld) (hB:LB n l) (hK:KeyB fs) (hl:fs.length<1000000):ko E 130 [.bx 0 0,.i id,.a (zp fs)] 2 (hpF (lstH 1 l)) ⟨.tu [.i (insF l id fs).1,.a (errA (insF l id fs).2.1)],j7 (lstH 1 l),lstH 2 (insF l id fs).2.2++vh (lstH 1 l),3⟩:=by
 refine wq [.bx 0 0,.i id,.a (zp fs)] (lstH 1 l) 2 (.tu [.i (insF l id fs).1,.a (errA (insF l id fs).2.1)]) (lstH 2 (insF l id fs).2.2) 3 Tryz.func130 rfl rfl rfl rfl fun S F ρ=>?_;have d5:=hB.len;have cd:=hB.small;have h4:=hB.mn0;have h5:=hB.mn1;have h6:=hB.nx0;have h7:=hB.nx1;have h1:=qty l id (by omega);have h2:=fun st=>q4q fs st hK hl;unfold insF;rcases qkh l id with h | ⟨i,e,h,he,cj,hid1⟩
 ·rw [h] at h1 ⊢
  by_cases h0:id=0
  ·rw [if_neg (fun q=>q.2 h0)]
   rw [show ((-1:Int)+1).toNat=0 from rfl];unfold xj at h2 ⊢
   cases hc:zv fs with
   |no=>
    rw [hc,if_pos rfl] at h2;rw [if_pos rfl,if_pos rfl];by_cases hm:400≤l.many
    ·rw [if_pos hm]
     apply qf [];repeat' (first|apply And.intro|(intro h;try exact cDd)|exact⟨Tryz.call168⟩|(refine jk h1 ?_)|exact⟨Tryz.call169⟩|refine cpe h2 ?_|exact cSd|apply qd []|refine exr ?_|refine qk ?_)
    ·rw [if_neg hm]
     have h3:=qp1 (f:=171) (E:=E) (xs:=l.ents.map entA) [Iv ((0:Nat):Int),.sl 4 [entA ⟨⟨3,z7 fs,fs⟩,l.next⟩] none] rfl (fun st c hc=>zar l.ents ⟨⟨3,z7 fs,fs⟩,l.next⟩ (0) (by omega) (by omega) st c hc);unfold insL;apply qf []
     repeat' (first|apply And.intro|(intro h;try exact cDd)|exact⟨Tryz.call168⟩|(refine jk h1 ?_)|exact⟨Tryz.call169⟩|refine cpe h2 ?_|exact⟨Tryz.call171⟩|(refine jk h3 ?_)|exact cSd|apply qd []|refine exr ?_|refine qk ?_)
   |num m=>
    rw [hc,if_neg (by simp)] at h2;rw [if_neg (by simp)];apply qf []
    repeat' (first|apply And.intro|(intro h;try exact cDd)|exact⟨Tryz.call168⟩|(refine jk h1 ?_)|exact⟨Tryz.call169⟩|refine cpe h2 ?_|exact cSd|apply qd []|refine exr ?_|refine qk ?_)
   |at' a m=>
    rw [hc,if_neg (by simp)] at h2;rw [if_neg (by simp)];apply qf [];repeat' (first|apply And.intro|(intro h;try exact cDd)|exact⟨Tryz.call168⟩|(refine jk h1 ?_)|exact⟨Tryz.call169⟩|refine cpe h2 ?_|exact cSd|apply qd []|refine exr ?_|refine qk ?_)
  ·rw [if_pos ⟨by decide,h0⟩]
   apply qf [];repeat' (first|apply And.intro|(intro h;try exact cDd)|exact⟨Tryz.call168⟩|(refine jk h1 ?_)|exact cSd|apply qd []|refine exr ?_|refine qk ?_)
 ·rw [h] at h1 ⊢
  have mg:=lt_of_getElem? he;rw [if_neg (fun q=>absurd q.1 (by omega))];rw [show ((i:Int)+1).toNat=i+1 from rfl];unfold xj at h2 ⊢
  cases hc:zv fs with
  |no=>
   rw [hc,if_pos rfl] at h2;rw [if_pos rfl,if_pos rfl];by_cases hm:400≤l.many
   ·rw [if_pos hm]
    apply qf [];repeat' (first|apply And.intro|(intro h;try exact cDd)|exact⟨Tryz.call168⟩|(refine jk h1 ?_)|exact⟨Tryz.call169⟩|refine cpe h2 ?_|exact cSd|apply qd []|refine exr ?_|refine qk ?_)
   ·rw [if_neg hm]
    have h3:=qp1 (f:=171) (E:=E) (xs:=l.ents.map entA) [Iv ((i+1:Nat):Int),.sl 4 [entA ⟨⟨3,z7 fs,fs⟩,l.next⟩] none] rfl (fun st c hc=>zar l.ents ⟨⟨3,z7 fs,fs⟩,l.next⟩ (i+1) (by omega) (by omega) st c hc);unfold insL;apply qf []
    repeat' (first|apply And.intro|(intro h;try exact cDd)|exact⟨Tryz.call168⟩|(refine jk h1 ?_)|exact⟨Tryz.call169⟩|refine cpe h2 ?_|exact⟨Tryz.call171⟩|(refine jk h3 ?_)|exact cSd|apply qd []|refine exr ?_|refine qk ?_)
  |num m=>
   rw [hc,if_neg (by simp)] at h2;rw [if_neg (by simp)];apply qf []
   repeat' (first|apply And.intro|(intro h;try exact cDd)|exact⟨Tryz.call168⟩|(refine jk h1 ?_)|exact⟨Tryz.call169⟩|refine cpe h2 ?_|exact cSd|apply qd []|refine exr ?_|refine qk ?_)
  |at' a m=>
   rw [hc,if_neg (by simp)] at h2;rw [if_neg (by simp)];apply qf [];repeat' (first|apply And.intro|(intro h;try exact cDd)|exact⟨Tryz.call168⟩|(refine jk h1 ?_)|exact⟨Tryz.call169⟩|refine cpe h2 ?_|exact cSd|apply qd []|refine exr ?_|refine qk ?_)
def wc:Nat→List qp→q9→List Int→ErrV×q9×List Int
 | _,[],l,ids=>(.no,l,ids)
 |k,x::r,l,ids=>if (oneF l x).2.1 = .no then wc (k+1) r (oneF l x).2.2 (if 0<(oneF l x).1 then ids++[(oneF l x).1] else ids) else (.at' k (oneF l x).2.1.code,l,ids)
def doF (l:q9) (b:List qp):ErrV×q9×List Int:=if eErr b = .no then wc 0 b l [] else (eErr b,l,[])
def doA (r:ErrV×q9×List Int):AV:=match r.1 with
 | .no=>.tu [vt r.2.1,qf9 r.2.2,errA .no]
 |e=>.tu [.v (.pointer none),qf9 [],errA e]
theorem zb4 (r:ErrV×q9×List Int):Pure (doA r):=by
 unfold doA;split
 ·exact q0z (qsl _) (qfd _) (vd _)
 ·exact q0z (q8 _) (qfd _) (vd _)
theorem q9w {l:q9} {x:qp} (h:(oneF l x).2.1≠.no):(oneF l x).2.1.code≠0:=by
 have key:∀ fs:List Fld,zv fs≠.no→(zv fs).code≠0:=fun fs h h'=>h ((qmx fs).1 h');unfold oneF at h ⊢;split
 ·rename_i h1
  rw [if_pos h1] at h;unfold xg at h ⊢;split
  ·exact (by decide:(ErrV.num 7).code≠0)
  ·rename_i h2
   rw [if_neg h2] at h;split
   ·rename_i h3
    rw [if_pos h3] at h;exact absurd rfl h
   ·exact key _ (by assumption)
 ·rename_i h1
  rw [if_neg h1] at h;split
  ·rename_i h2
   rw [if_pos h2] at h;unfold delF at h ⊢;split
   ·exact (by decide:(ErrV.num 7).code≠0)
   ·rename_i h3
    rw [if_neg h3] at h;exact absurd rfl h
  ·rename_i h2
   rw [if_neg h2] at h;unfold insF at h ⊢;split
   ·exact (by decide:(ErrV.num 7).code≠0)
   ·rename_i h3
    rw [if_neg h3] at h;split
    ·rename_i h4
     rw [if_pos h4] at h;split
     ·exact (by decide:(ErrV.num 11).code≠0)
     ·rename_i h5
      rw [if_neg h5] at h;exact absurd rfl h
    ·exact key _ (by assumption)
theorem zic (n:Nat) (l:q9) (x:qp) (hB:LB n l) (hK:KeyB x.fields) (hl:x.fields.length<1000000):ko E 87 [.bx 0 0,.a (z6 x)] 2 (hpF (lstH 1 l)) ⟨.tu [.i (oneF l x).1,.a (errA (oneF l x).2.1)],j7 (lstH 1 l),lstH 2 (oneF l x).2.2++vh (lstH 1 l),3⟩:=by
 refine wq [.bx 0 0,.a (z6 x)] (lstH 1 l) 2 (.tu [.i (oneF l x).1,.a (errA (oneF l x).2.1)]) (lstH 2 (oneF l x).2.2) 3 Tryz.func87 rfl rfl rfl rfl fun S F ρ=>?_;unfold oneF;by_cases h1:x.kind=1
 ·rw [if_pos h1]
  have hc:=zgh n l x.id x.fields hB hK hl;generalize xg l x.id x.fields=r at hc;apply qf [];repeat' (first|apply And.intro|(intro h;try exact cDd)|exact⟨Tryz.call128⟩|(refine jk hc ?_)|exact cSd|apply qd []|refine exr ?_|refine qk ?_)
 ·rw [if_neg h1]
  by_cases h2:x.kind=2
  ·rw [if_pos h2]
   have hc:=zin n l x.id hB;generalize delF l x.id=r at hc;apply qf [];repeat' (first|apply And.intro|(intro h;try exact cDd)|exact⟨Tryz.call129⟩|(refine jk hc ?_)|exact cSd|apply qd []|refine exr ?_|refine qk ?_)
  ·rw [if_neg h2]
   have hc:=zis n l x.id x.fields hB hK hl;generalize insF l x.id x.fields=r at hc;apply qf [];repeat' (first|apply And.intro|(intro h;try exact cDd)|exact⟨Tryz.call130⟩|(refine jk hc ?_)|exact cSd|apply qd []|refine exr ?_|refine qk ?_)
theorem zjo (n:Nat) (l:q9) (b:List qp) (st:List AObj) (hB:LB n l) (hn:n+40<900000) (hE:∀ x∈b,EdB x) (hl:b.length<1000000):qo E 51 [vt l,ku b] st fun r st'=>r=doA (doF l b)∧st'=st:=by
 refine qlu [.a (vt l),.a (ku b)] (zb4 _) Tryz.func51 rfl rfl (fun _=>rfl) rfl fun S0=>?_;have gc:=fun st=>qk6 b st _ rfl hE (by omega);unfold doF
 cases he:eErr b with
 |num m=>
  rw [he] at gc;rw [if_neg (by simp)];apply qf []
  repeat' (first|apply And.intro|(intro h;try exact cDd)|exact⟨Tryz.call63⟩|refine cpe gc ?_|exact cSd|apply qd []|refine exr ?_|refine qk ?_)
 |at' a m=>
  rw [he] at gc;rw [if_neg (by simp)];apply qf []
  repeat' (first|apply And.intro|(intro h;try exact cDd)|exact⟨Tryz.call63⟩|refine cpe gc ?_|exact cSd|apply qd []|refine exr ?_|refine qk ?_)
 |no=>
  rw [he] at gc;rw [if_pos rfl];obtain⟨o6,hb40,hg⟩:=qbt he;have np:=zf9 l (by have:=hB.len;omega);apply qf [];repeat' (first|apply And.intro|(intro h;try exact cDd)|exact⟨Tryz.call63⟩|refine cpe gc ?_|exact⟨Tryz.call86⟩|(refine jk np ?_)|exact cSd|apply qd []|refine exr ?_|refine qk ?_)
  refine j5 (X:=Nat×q9×List Int) (fun (k,q,ids)=>⟨[(8,.bx 0 0),(9,.tp 2),(21,.a (ku b)),(22,.i b.length),(23,.i k)],[(0,some (.cells 105 [.tp 1,.i q.next,.i q.many])),(1,some (.own 4 109 (q.ents.map entA))),(2,some (.tip 1 3 (ids.map fun x=>Iv x)))],3⟩)
   (fun (k,q,ids)=>k≤b.length∧LB (n+k) q∧ids.length≤k∧wc k (b.drop k) q ids=wc 0 b l []) (fun (k,q,ids)=>b.length - k) (0,l,[]) ⟨by omega,hB,by simp,rfl⟩ ?_ ?_
  ·skip
   repeat' (first|apply And.intro|(intro h;try exact cDd)|exact cSd|apply qd []|refine exr ?_|refine qk ?_)
   all_goals (simp;done)
  ·rintro⟨k,q,ids⟩ ⟨hk,hq,mg,a8⟩
   by_cases i7:k<b.length
   ·have hx:b[k]? = some b[k]:=List.getElem?_eq_getElem i7
    have m3:(b.map z6)[k]? = some (z6 b[k]):=by rw [List.getElem?_map,hx];rfl
    have hxE:=hE b[k] (List.getElem_mem i7);have hxf:=(qeq (hg b[k] (List.getElem_mem i7))).1;rw [List.drop_eq_getElem_cons i7,wc] at a8;have hidl:(ids.map fun x=>Iv x).length=ids.length:=by simp
    generalize b[k]=x at hx m3 hxE hxf a8;have rq:=zic (n+k) q x hq hxE.keys (by omega);have hlb:=que hq (by omega) x;have hcd:=fun h=>q9w (l:=q) (x:=x) h;generalize oneF q x=o at rq hlb hcd a8;obtain⟨id,e,q'⟩:=o;dsimp only at rq hlb hcd a8
    cases e with
    |no=>
     rw [if_pos rfl] at a8;by_cases h0:0<id
     ·rw [if_pos h0] at a8
      apply qf [];repeat' (first|apply And.intro|(intro h;try exact cDd)|(refine Exists.intro (k) ⟨by omega,_,m3,?_⟩)|exact⟨Tryz.call87⟩|(refine jk rq ?_)|(refine Exists.intro (k+1,q',ids++[id]) ⟨⟨by omega,hlb,by simp;omega,a8⟩,by simp only;omega,?_⟩)|exact cSd|apply qd []|refine exr ?_|refine qk ?_)
      all_goals first|(simp;done)|(simp;omega)
     ·rw [if_neg h0] at a8
      apply qf [];repeat' (first|apply And.intro|(intro h;try exact cDd)|(refine Exists.intro (k) ⟨by omega,_,m3,?_⟩)|exact⟨Tryz.call87⟩|(refine jk rq ?_)|(refine Exists.intro (k+1,q',ids) ⟨⟨by omega,hlb,by first|omega|(simp only;omega),a8⟩,by simp only;omega,?_⟩)|exact cSd|apply qd []|refine exr ?_|refine qk ?_)
      all_goals first|(simp;done)|(simp;omega)
    |num m=>
     rw [if_neg (by simp)] at a8;rw [← a8];have rm:=fun st=>qp4 k (.num m) st (hcd (by simp));apply qf []
     repeat' (first|apply And.intro|(intro h;try exact cDd)|(refine Exists.intro (k) ⟨by omega,_,m3,?_⟩)|exact⟨Tryz.call87⟩|(refine jk rq ?_)|exact⟨Tryz.call88⟩|refine cpe rm ?_|exact cSd|apply qd []|refine exr ?_|refine qk ?_)
    |at' a m=>
     rw [if_neg (by simp)] at a8;rw [← a8];have rm:=fun st=>qp4 k (.at' a m) st (hcd (by simp));apply qf [];repeat' (first|apply And.intro|(intro h;try exact cDd)|(refine Exists.intro (k) ⟨by omega,_,m3,?_⟩)|exact⟨Tryz.call87⟩|(refine jk rq ?_)|exact⟨Tryz.call88⟩|refine cpe rm ?_|exact cSd|apply qd []|refine exr ?_|refine qk ?_)
   ·have i7:k=b.length:=by omega
    subst i7;rw [List.drop_length,wc] at a8;rw [← a8];apply qf [];repeat' (first|apply And.intro|(intro h;try exact cDd)|exact cSd|apply qd []|refine exr ?_|refine qk ?_)
structure RunV where
 l:q9
 given:List (List Int)
 touched:List Int
def zje (b:List qp):List Int:=(b.filter fun x=>decide (x.kind≠3)).map fun x=>x.id
def zjy (r:RunV) (b:List qp):RunV:=⟨(doF r.l b).2.1,r.given++[(doF r.l b).2.2],r.touched++zje b⟩
def q0v:List (List qp)→RunV→ErrV×RunV
 | [],r=>(.no,r)
 |b::q,r=>if (doF r.l b).1 = .no then q0v q (zjy r b) else (.at' r.given.length 10,r)
def zjt (base:qc) (bs:List (List qp)):ErrV×RunV:=if vb base = .no then q0v bs ⟨ofF (itsE base),[],[]⟩ else (vb base,⟨ofF [],[],[]⟩)
theorem qoe {n m:Nat} {l:q9} (h:LB n l) (hm:n≤m) (hs:m<900000):LB m l:=by
 have h1:=h.len;have h2:=h.nx0;have h3:=h.nx1;have h4:=h.mn0;have h5:=h.mn1;exact⟨hs,by omega,h2,by omega,by omega,by omega⟩
theorem qvn:∀ (b:List qp) (k n:Nat) (l:q9) (ids:List Int),LB n l→n+b.length<900000→LB (n+b.length) (wc k b l ids).2.1
 | [],k,n,l,ids,h,_=>h
 |x::r,k,n,l,ids,h,hs=>by
  simp only [List.length_cons] at hs ⊢;unfold wc;split
  ·have:=qvn r (k+1) (n+1) (oneF l x).2.2 (if 0<(oneF l x).1 then ids++[(oneF l x).1] else ids) (que h (by omega) x) (by omega)
   rw [show n+(r.length+1)=n+1+r.length by omega];exact this
  ·have h1:=h.len;have h2:=h.nx0;have h3:=h.nx1;have h4:=h.mn0;have h5:=h.mn1
   exact⟨by omega,by simp only;omega,h2,by simp only;omega,by simp only;omega,by simp only;omega⟩
theorem zh5 {n:Nat} {l:q9} (h:LB n l) (hs:n+40<900000) (b:List qp):LB (n+40) (doF l b).2.1:=by
 unfold doF;split
 ·rename_i he
  obtain⟨h1,h2,_⟩:=qbt he;exact qoe (qvn b 0 n l [] h (by omega)) (by omega) hs
 ·exact qoe h (by omega) hs
theorem q9s:∀ (its:List za) (n:Nat) (l:q9),LB n l→n+its.length<900000→LB (n+its.length) (its.foldl wp l)
 | [],n,l,h,_=>h
 |x::r,n,l,h,hs=>by
  simp only [List.length_cons] at hs ⊢;rw [List.foldl_cons,show n+(r.length+1)=n+1+r.length by omega];refine q9s r (n+1) _ ?_ (by omega);have h1:=h.len;have h2:=h.nx0;have h3:=h.nx1;have h4:=h.mn0;have h5:=h.mn1;unfold wp;split
  ·exact⟨by omega,by simp;omega,by simp only;omega,by simp only;omega,by simp only;omega,by simp only;omega⟩
  ·exact⟨by omega,by simp;omega,h2,by simp only;omega,by simp only;omega,by simp only;omega⟩
theorem qff (text:qc):LB 300000 (ofF (itsE text)):=by
 have h:=qzz text;have:=q9s (itsE text) 0 ⟨[],1,0⟩ ⟨by omega,by simp,by simp,by simp,by simp,by simp⟩ (by omega);exact qoe this (by omega) (by omega)
end Go.Proofs.YtapblfabkbdgcaaGreatDoor
namespace Go.Pl
open Go Go.Proofs Go.Proofs.YtapblfabkbdgcaaGreatDoor
def trL (ls:List qc):List (qc×Bool):=ls.map fun s=>(s,true)
def now0:za:=⟨2,[],[]⟩
def blkR:Bool→za→List qc→Option za
 | _,now,[]=>some now
 |prev,now,t::r=>
  if ka prev t true (trL r) now.fields.length 0≠0∨qs t=1 then none
  else if qs t=4 then blkR true ⟨3,now.raw++t++[10],now.fields++[(zq (t::vg (trL r))).1]⟩ r
  else blkR (decide (qs t=3)) ⟨now.kind,now.raw++t++[10],now.fields⟩ r
def qxn:List (qc×Bool)→Prop
 | []=>True
 |(t,_)::_=>qs t=1
theorem qjg:∀ (ls:List qc) (rest:List (qc×Bool)),qxn rest→vg (trL ls++rest)=vg (trL ls)
 | [],[],_=>rfl
 | [],(t,e)::r,h=>by
  have h:qs t=1:=h
  show (if qs t=3 then _ else _)=_
  rw [if_neg (by omega)]
  rfl
 |t::r,rest,h=>by
  show (if qs t=3 then t::vg (trL r++rest) else [])=(if qs t=3 then t::vg (trL r) else [])
  rw [qjg r rest h]
theorem ql9 (prev:Bool) (t:qc) (ls:List qc) (rest:List (qc×Bool)) (n:Nat) (rec:Int) (h:qxn rest):ka prev t true (trL ls++rest) n rec=ka prev t true (trL ls) n rec:=by
 unfold ka;rw [qjg ls rest h]
theorem zbi {prev:Bool} {t:qc} {L:List (qc×Bool)} {n:Nat} {rec:Int} (h:ka prev t true L n 0=0) (hr:qs t=4→n=0→rec<400):ka prev t true L n rec=0:=by
 unfold ka at h ⊢;split
 ·rename_i h1;rw [if_pos h1] at h;exact h
 ·rename_i h1
  rw [if_neg h1] at h;split
  ·rfl
  ·rename_i h4
   rw [if_neg h4] at h;split
   ·rename_i hu;rw [if_pos hu] at h;exact h
   ·rename_i hu
    rw [if_neg hu] at h;have h4:=Classical.not_not.1 h4;rw [if_neg];intro hh;rcases hh with hh|hh
    ·rw [if_pos (.inl hh)] at h;omega
    ·have:=hr h4 hh.1;omega
theorem qtt {prev:Bool} {t:qc} {e:Bool} {L:List (qc×Bool)} {n:Nat} {rec:Int} (h:ka prev t e L n rec=0):ka prev t e L n 0=0:=by
 unfold ka at h ⊢;split
 ·rename_i h1;rw [if_pos h1] at h;exact h
 ·rename_i h1
  rw [if_neg h1] at h;split
  ·rfl
  ·rename_i h4
   rw [if_neg h4] at h;split
   ·rename_i hu;rw [if_pos hu] at h;exact h
   ·rename_i hu
    rw [if_neg hu] at h;rw [if_neg];intro hh;rcases hh with hh|hh
    ·rw [if_pos (.inl hh)] at h;omega
    ·omega
theorem zbh {prev:Bool} {t:qc} {e:Bool} {L:List (qc×Bool)} {n:Nat} {rec:Int} (h:ka prev t e L n rec=0):e=true∧10∉t:=by
 unfold ka at h;split at h
 ·omega
 ·rename_i h1
  refine⟨by cases e with|true=>rfl|false=>exact absurd (.inr (.inr rfl)) h1,fun f9=>h1 (.inl ?_)⟩;unfold qs;rw [if_pos f9]
theorem qpt {prev:Bool} {t:qc} {L:List (qc×Bool)} {n:Nat} {rec:Int} (h:qs t=1):ka prev t true L n rec=0:=by
 unfold ka;rw [if_neg (by simp [h]),if_pos (by omega)]
theorem qi0:∀ (ls:List qc) (prev:Bool) (now x:za),blkR prev now ls=some x→now.kind=3→x.kind=3
 | [],_,now,x,h,hk=>by cases h;exact hk
 |t::r,prev,now,x,h,hk=>by
  rw [blkR] at h;split at h
  ·cases h
  ·split at h
   ·exact qi0 r _ _ _ h rfl
   ·exact qi0 r _ _ _ h hk
theorem qn9:∀ (ls:List qc) (prev:Bool) (now x:za),blkR prev now ls=some x→x.raw=now.raw++zf ls
 | [],_,now,x,h=>by cases h;simp [zf]
 |t::r,prev,now,x,h=>by
  rw [blkR] at h;split at h
  ·cases h
  ·split at h
   ·rw [qn9 r _ _ _ h,w6];simp
   ·rw [qn9 r _ _ _ h,w6];simp
def qmo (x:za):Prop:=x.kind=3∧x.fields≠[]∨x.kind=2∧x.fields=[]
theorem qki:∀ (ls:List qc) (k:Nat) (prev:Bool) (now x:za) (rec:Int) (out:List za) (rest:List (qc×Bool)),qxn rest→blkR prev now ls=some x→qmo now→(now.kind=2→x.kind=3→rec<400) →
  (∃ prev',refL k (trL ls++rest) prev now rec out=refL (k+ls.length) rest prev' x (if now.kind=2∧x.kind=3 then rec+1 else rec) out)∧qmo x
 | [],k,prev,now,x,rec,out,rest,hs,h,hk,hr=>by
  cases h
  refine⟨⟨prev,?_⟩,hk⟩;rw [if_neg (by omega)]
  rfl
 |t::r,k,prev,now,x,rec,out,rest,hs,h,hk,hr=>by
  rw [blkR] at h;split at h
  ·cases h
  ·rename_i hc
   simp only [not_or,Classical.not_not] at hc
   have hrec:qs t=4→now.fields.length=0→rec<400:=fun h4 h0=>by
    rw [if_pos h4] at h;rcases hk with hk|hk
    ·exact absurd (List.length_eq_zero_iff.1 h0) hk.2
    ·exact hr hk.1 (qi0 r _ _ _ h rfl)
   have hw:ka prev t true (trL r++rest) now.fields.length rec=0:=by
    rw [ql9 _ _ _ _ _ _ hs];exact zbi hc.1 hrec
   have d8:trL (t::r)++rest=(t,true)::(trL r++rest):=rfl;rw [d8,refL,if_neg (by simp [hw]),if_neg hc.2];split at h
   ·rename_i h4
    rw [if_pos h4,qjg r rest hs];have hx3:=qi0 r _ _ _ h rfl;obtain⟨⟨p',e⟩,hkx⟩:=qki r (k+1) _ _ x (if now.kind=2 then rec+1 else rec) out rest hs h (.inl ⟨rfl,by simp⟩) (by simp);refine⟨⟨p',?_⟩,hkx⟩;rw [e,if_neg (by simp)];simp only [hx3,and_true,List.length_cons];congr 1;omega
   ·rename_i h4
    rw [if_neg h4];obtain⟨⟨p',e⟩,hkx⟩:=qki r (k+1) _ _ x rec out rest hs h hk hr;refine⟨⟨p',?_⟩,hkx⟩;rw [e,List.length_cons];congr 1;omega
theorem qul:∀ (L:List (qc×Bool)) (k:Nat) (prev:Bool) (now:za) (rec:Int) (out its:List za),refL k L prev now rec out=(none,its) →
  ∃ (ls:List qc) (rest:List (qc×Bool)) (prev':Bool) (x:za) (rec':Int) (k':Nat),L=trL ls++rest∧qxn rest∧blkR prev now ls=some x∧refL k' rest prev' x rec' out=(none,its)∧∀ t∈ls,10∉t
 | [],k,prev,now,rec,out,its,h=>⟨[],[],prev,now,rec,k,rfl,trivial,rfl,h,by simp⟩
 |(t,e)::r,k,prev,now,rec,out,its,h=>by
  have h0:=h;rw [refL] at h;split at h
  ·simp at h
  ·rename_i hw
   have hw:=Classical.not_not.1 hw;obtain⟨rfl,f9⟩:=zbh hw;split at h
   ·rename_i h1
    exact⟨[],(t,true)::r,prev,now,rec,k,rfl,h1,rfl,h0,by simp⟩
   ·rename_i h1
    split at h
    ·rename_i h4
     obtain⟨ls,rest,p',x,rc,k',rfl,hs,hb,hr,fx⟩:=qul r _ _ _ _ _ _ h;rw [qjg ls rest hs] at hb;rw [ql9 _ _ _ _ _ _ hs] at hw;refine⟨t::ls,rest,p',x,rc,k',rfl,hs,?_,hr,by simpa using ⟨f9,fx⟩⟩;rw [blkR,if_neg (by simp [qtt hw,h1]),if_pos h4];exact hb
    ·rename_i h4
     obtain⟨ls,rest,p',x,rc,k',rfl,hs,hb,hr,fx⟩:=qul r _ _ _ _ _ _ h;rw [ql9 _ _ _ _ _ _ hs] at hw;refine⟨t::ls,rest,p',x,rc,k',rfl,hs,?_,hr,by simpa using ⟨f9,fx⟩⟩;rw [blkR,if_neg (by simp [qtt hw,h1]),if_neg h4];exact hb
def yf (x:za):Prop:=(∃ t,x=⟨1,t++[10],[]⟩∧qs t=1)∨∃ ls,ls≠[]∧blkR false now0 ls=some x∧∀ t∈ls,10∉t
theorem qwe (out:List za):outR now0 out=out:=rfl
theorem qv7 {t:qc} (h:qs t=1):10∉t:=fun f9=>by
 unfold qs at h;rw [if_pos f9] at h;omega
theorem zam:∀ (n:Nat) (L:List (qc×Bool)) (k:Nat) (rec:Int) (out its:List za),L.length≤n→refL k L false now0 rec out=(none,its)→(∀ x∈out,yf x)→∀ x∈its,yf x:=by
 intro n
 induction n with
 |zero=>
  intro L k rec out its hn h ho;have:L=[]:=List.length_eq_zero_iff.1 (by omega);subst this;have h:(none,outR now0 out)=(none,its):=h;simp only [Prod.mk.injEq,true_and] at h;subst h
  exact ho
 |succ n ih=>
  intro L k rec out its hn h ho;obtain⟨ls,rest,p',x,rc,k',rfl,hs,hb,hr,fx⟩:=qul L _ _ _ _ _ _ h
  have hout:∀ y∈outR x out,yf y:=fun y hy=>by
   unfold outR at hy;split at hy
   ·exact ho y hy
   ·rename_i hx
    rcases List.mem_append.1 hy with hy|hy
    ·exact ho y hy
    ·simp only [List.mem_cons,List.not_mem_nil,or_false] at hy
     subst hy;refine .inr ⟨ls,fun e=>hx ?_,hb,fx⟩;subst e
     cases hb
     rfl
  cases rest with
  |nil=>
   have hr:(none,outR x out)=(none,its):=hr;simp only [Prod.mk.injEq,true_and] at hr;subst hr
   exact hout
  |cons y r=>
   obtain⟨t,e⟩:=y;have h1:qs t=1:=hs;rw [refL] at hr;split at hr
   ·simp at hr
   ·try rw [if_pos h1] at hr
    refine ih r _ _ _ _ (by simp at hn;omega) hr fun y hy=>?_;rcases List.mem_append.1 hy with hy|hy
    ·exact hout y hy
    ·simp only [List.mem_cons,List.not_mem_nil,or_false] at hy
     subst hy;exact .inl ⟨t,rfl,h1⟩
theorem qnu {text:qc} (h:(jj text).1=none):∀ x∈(jj text).2,yf x:=by
 refine zam _ (zj text) 0 0 [] _ (Nat.le_refl _) ((qgc text).trans (Prod.ext h rfl)) (by simp)
theorem q2p {fs:List Fld} (hg:GF fs) (b8:fs≠[]):yf ⟨3,z7 fs,fs⟩:=by
 have h:=qsy hg b8;exact qnu (by rw [h]) _ (by rw [h];simp)
def SepI:List za→Prop
 | []=>True
 | [_]=>True
 |x::y::r=>(x.kind≠1→y.kind=1)∧SepI (y::r)
def cntI (its:List za):Nat:=its.countP fun x=>x.kind=3
theorem qnl:∀ (ls:List qc) (R:qc),(∀ s∈ls,10∉s)→zj (zf ls++R)=trL ls++zj R
 | [],R,_=>rfl
 |s::r,R,h=>by
  have hs:=h s (by simp);have e:zf (s::r)++R=s++10::(zf r++R):=by rw [w6];simp
  rw [e,vw (by simp),wj _ hs,xb _ hs,qnl r R fun x hx=>h x (by simp [hx])];simp [trL]
theorem qpn {t:qc} {R:qc} (h:10∉t):zj (t++[10]++R)=(t,true)::zj R:=by
 have:=qnl [t] R (by simpa using h)
 simpa [zf,trL] using this
theorem qj2 {x:za} (h:yf x):x.kind=1∧(∃ t,x=⟨1,t++[10],[]⟩∧qs t=1)∨qmo x∧x.raw≠[]∧∃ ls,ls≠[]∧blkR false now0 ls=some x∧∀ t∈ls,10∉t:=by
 rcases h with⟨t,rfl,ht⟩ | ⟨ls,b8,hb,fx⟩
 ·exact .inl ⟨rfl,t,rfl,ht⟩
 ·refine .inr ⟨(qki ls 0 false now0 x 0 [] [] trivial hb (.inr ⟨rfl,rfl⟩) (by omega)).2,?_,ls,b8,hb,fx⟩
  rw [qn9 _ _ _ _ hb]
  cases ls with
  |nil=>exact absurd rfl b8
  |cons t r=>simp [zf,now0]
theorem qlp:∀ (its:List za) (k:Nat) (rec:Int) (out:List za),(∀ x∈its,yf x)→SepI its→rec+cntI its≤400→refL k (zj (ji its)) false now0 rec out=(none,out++its)
 | [],k,rec,out,_,_,_=>by
  have:ji []=[]:=rfl;rw [this,kv]
  simp [refL,qwe]
 |x::r,k,rec,out,hok,rj,hc=>by
  have hraw:ji (x::r)=x.raw++ji r:=rfl;rw [hraw];rcases qj2 (hok x (by simp)) with⟨bg,t,rfl,ht⟩ | ⟨hkx,tx,ls,b8,hb,fx⟩
  ·rw [qpn (qv7 ht),refL,if_neg (by rw [qpt ht];simp),if_pos ht,qwe]
   have hs:SepI r:=by cases r with|nil=>trivial|cons y q=>exact rj.2
   have:=qlp r (k+1) rec (out++[⟨1,t++[10],[]⟩]) (fun y hy=>hok y (by simp [hy])) hs (by simpa [cntI] using hc);rw [show (⟨2,[],[]⟩:za)=now0 from rfl,this];simp
  ·have rk:x.kind≠1:=by rcases hkx with h|h <;> omega
   have hc3:x.kind=3→rec<400:=fun h=>by simp [cntI,h] at hc;omega
   have tq:x.raw=zf ls:=by rw [qn9 _ _ _ _ hb];rfl
   rw [tq,qnl ls _ fx]
   match r,hok,rj,hc with
   | [],hok,rj,hc=>
    have:ji []=[]:=rfl;rw [this,kv];obtain⟨⟨p',e⟩,_⟩:=qki ls k false now0 x rec out [] trivial hb (.inr ⟨rfl,rfl⟩) fun _ h=>hc3 h;rw [e,refL];unfold outR
    rw [if_neg tx]
   |y::q,hok,rj,hc=>
    have hy1:=rj.1 rk;rcases qj2 (hok y (by simp)) with⟨_,t,rfl,ht⟩ | ⟨sv,_⟩
    ·have hraw:ji (⟨1,t++[10],[]⟩::q)=(t++[10])++ji q:=rfl
     rw [hraw,qpn (qv7 ht)];obtain⟨⟨p',e⟩,_⟩:=qki ls k false now0 x rec out ((t,true)::zj (ji q)) ht hb (.inr ⟨rfl,rfl⟩) fun _ h=>hc3 h;rw [e,refL,if_neg (by rw [qpt ht];simp),if_pos ht];have hs:SepI q:=by cases q with|nil=>trivial|cons z q'=>exact rj.2.2
     have ho:outR x out=out++[x]:=by unfold outR;rw [if_neg tx]
     rw [ho,show (⟨2,[],[]⟩:za)=now0 from rfl]
     have nj:(if now0.kind=2∧x.kind=3 then rec+1 else rec)+(cntI q:Int)≤400:=by
      simp only [cntI,List.countP_cons] at hc ⊢;by_cases h3:x.kind=3
      ·rw [if_pos ⟨rfl,h3⟩]
       simp [h3] at hc;omega
      ·rw [if_neg fun h=>h3 h.2]
       simp [h3] at hc;omega
     rw [qlp q _ _ _ (fun y hy=>hok y (by simp [hy])) hs nj];simp
    ·exfalso
     rcases sv with h|h <;> omega
theorem qai (a b:List za):cntI (a++b)=cntI a+cntI b:=by simp [cntI]
theorem xd (x:za) (b:List za):cntI (x::b)=(if x.kind=3 then 1 else 0)+cntI b:=by
 simp only [cntI,List.countP_cons,decide_eq_true_eq];omega
theorem qu3:∀ (its:List za) (prev:Bool),SepI (jz prev its)∧(prev=true→∀ x,(jz prev its).head? = some x→x.kind=1)
 | [],prev=>⟨trivial,by simp [jz]⟩
 |x::r,prev=>by
  obtain⟨h1,h2⟩:=qu3 r (decide (x.kind≠1))
  have key:SepI (x::jz (decide (x.kind≠1)) r):=by
   cases hq:jz (decide (x.kind≠1)) r with
   |nil=>trivial
   |cons y q=>
    rw [hq] at h1 h2;exact⟨fun hk=>h2 (by simpa using hk) y rfl,h1⟩
  rw [jz];by_cases hp:prev=true∧x.kind≠1
  ·rw [if_pos hp]
   exact⟨⟨fun h=>absurd rfl h,key⟩,fun _ y hy=>by simp at hy;subst hy;rfl⟩
  ·rw [if_neg hp]
   exact⟨key,fun hpr y hy=>by
    simp at hy;subst hy
    exact Classical.byContradiction fun h=>hp ⟨hpr,h⟩⟩
theorem qyo:∀ (its:List za) (prev:Bool),(∀ x∈its,yf x)→(∀ x∈jz prev its,yf x)∧cntI (jz prev its)=cntI its
 | [],prev,_=>by simp [jz]
 |x::r,prev,h=>by
  obtain⟨h1,h2⟩:=qyo r (decide (x.kind≠1)) fun y hy=>h y (by simp [hy]);have hx:=h x (by simp);have gb:yf ⟨1,[10],[]⟩:=.inl ⟨[],rfl,by decide⟩;rw [jz];split
  ·refine⟨fun y hy=>?_,by simp only [List.cons_append,List.nil_append,xd];rw [h2];try simp⟩
   simp only [List.cons_append,List.nil_append,List.mem_cons] at hy;rcases hy with rfl|rfl|hy
   ·exact gb
   ·exact hx
   ·exact h1 y hy
  ·refine⟨fun y hy=>?_,by simp only [List.cons_append,List.nil_append,xd];rw [h2];try simp⟩
   simp only [List.cons_append,List.nil_append,List.mem_cons] at hy;rcases hy with rfl|hy
   ·exact hx
   ·exact h1 y hy
theorem q0r {its:List za} (h:∀ x∈its,yf x) (hc:cntI its≤400):jj (ji (y8 its))=(none,y8 its):=by
 obtain⟨h1,h2⟩:=qyo its false h;have:=qlp (y8 its) 0 0 [] h1 (qu3 its false).1 (by unfold y8;rw [h2];omega);rw [List.nil_append] at this;rw [← qgc];exact this
theorem q0m {now:za} {out:List za} (hk:qmo now) (hr:now.kind=3→now.raw≠[]):(cntI (outR now out):Int)=(cntI out:Int)+(if now.kind=3 then 1 else 0):=by
 have h0:cntI []=0:=rfl;unfold outR;by_cases he:now.raw=[]
 ·rw [if_pos he,if_neg fun h=>hr h he]
  omega
 ·rw [if_neg he,qai,xd,h0]
  by_cases h3:now.kind=3
  ·rw [if_pos h3,if_pos h3];omega
  ·rw [if_neg h3,if_neg h3];omega
theorem qor:∀ (L:List (qc×Bool)) (k:Nat) (prev:Bool) (now:za) (rec:Int) (out its:List za),refL k L prev now rec out=(none,its)→qmo now→(now.kind=3→now.raw≠[])→(cntI out:Int)+(if now.kind=3 then 1 else 0)=rec→rec≤400→cntI its≤400
 | [],k,prev,now,rec,out,its,h,hk,hr,hc,hm=>by
  have h:(none,outR now out)=(none,its):=h;simp only [Prod.mk.injEq,true_and] at h;subst h;have:=q0m (out:=out) hk hr
  omega
 |(t,e)::r,k,prev,now,rec,out,its,h,hk,hr,hc,hm=>by
  rw [refL] at h;split at h
  ·simp at h
  ·rename_i hw
   have hw:=Classical.not_not.1 hw;split at h
   ·refine qor r _ _ _ _ _ _ h (.inr ⟨rfl,rfl⟩) (by simp) ?_ hm
    have:=q0m (out:=out) hk hr;rw [qai,xd,show cntI []=0 from rfl,if_neg (by omega:¬ (1:Int)=3),if_neg (by omega:¬ (2:Int)=3)];omega
   ·split at h
    ·rename_i h4
     refine qor r _ _ _ _ _ _ h (.inl ⟨rfl,by simp⟩) (by simp) ?_ ?_
     ·rcases hk with hk|hk
      ·rw [if_pos hk.1] at hc
       rw [if_pos rfl,if_neg (by omega)];exact hc
      ·rw [if_neg (by omega)] at hc
       rw [if_pos rfl,if_pos hk.1];omega
     ·rcases hk with hk|hk
      ·rw [if_neg (by omega)];exact hm
      ·rw [if_pos hk.1]
       unfold ka at hw;split at hw
       ·omega
       ·rw [if_neg (by omega)] at hw
        split at hw
        ·omega
        ·split at hw
         ·omega
         ·rename_i hf
          have:now.fields.length=0:=by rw [hk.2];rfl
          omega
    ·exact qor r _ _ _ _ _ _ h hk (fun h3=>by simp) hc hm
theorem q92 {text:qc} (h:(jj text).1=none):cntI (jj text).2≤400:=
 qor (zj text) 0 false now0 0 [] _ ((qgc text).trans (Prod.ext h rfl)) (.inr ⟨rfl,rfl⟩) (by simp [now0]) (by simp [cntI,now0]) (by omega)
structure GL (l:q9):Prop where
 ok:∀ e∈l.ents,yf e.x∧(0<e.id↔e.x.kind=3)
 nx:1≤l.next
 mn:l.many=cntI (jc l)
 le:cntI (jc l)≤400
theorem q9u {l:q9} {x:za} (h:GL l) (hx:yf x) (hc:cntI (jc l)+cntI [x]≤400):GL (wp l x):=by
 obtain⟨h1,h2,h3,h4⟩:=h;rw [xd] at hc;unfold wp;by_cases hk:x.kind=3
 ·rw [if_pos hk]
  refine⟨fun e he=>?_,by simp only;omega,?_,?_⟩
  ·rcases List.mem_append.1 he with he|he
   ·exact h1 e he
   ·simp only [List.mem_cons,List.not_mem_nil,or_false] at he
    subst he;exact⟨hx,fun _=>hk,fun _=>by show 0<l.next;omega⟩
  ·simp only [jc,List.map_append,qai,List.map_cons,List.map_nil,xd] at h3 ⊢
   rw [if_pos hk];simp [cntI] at h3 ⊢;omega
  ·rw [if_pos hk] at hc
   simp only [jc,List.map_append,qai,List.map_cons,List.map_nil,xd] at hc ⊢;rw [if_pos hk];exact hc
 ·rw [if_neg hk]
  refine⟨fun e he=>?_,h2,?_,?_⟩
  ·rcases List.mem_append.1 he with he|he
   ·exact h1 e he
   ·simp only [List.mem_cons,List.not_mem_nil,or_false] at he
    subst he;exact⟨hx,by simp [hk]⟩
  ·simp only [jc,List.map_append,qai,List.map_cons,List.map_nil,xd] at h3 ⊢
   rw [if_neg hk];simp [cntI] at h3 ⊢;omega
  ·rw [if_neg hk] at hc
   simp only [jc,List.map_append,qai,List.map_cons,List.map_nil,xd] at hc ⊢;rw [if_neg hk];exact hc
theorem q2w (l:q9) (x:za):jc (wp l x)=jc l++[x]:=by
 unfold wp jc;split <;> simp
theorem qwc:∀ (its:List za) (l:q9),GL l→(∀ x∈its,yf x)→cntI (jc l)+cntI its≤400→GL (its.foldl wp l)
 | [],l,h,_,_=>h
 |x::r,l,h,hx,hc=>by
  rw [xd] at hc;refine qwc r (wp l x) (q9u h (hx x (by simp)) ?_) (fun y hy=>hx y (by simp [hy])) ?_
  ·rw [xd,show cntI []=0 from rfl];omega
  ·rw [q2w,qai,xd]
   rw [show cntI []=0 from rfl];omega
theorem ziz {its:List za} (hx:∀ x∈its,yf x) (hc:cntI its≤400):GL (ofF its):=
 qwc its ⟨[],1,0⟩ ⟨by simp,by simp,by simp [jc,cntI],by simp [jc,cntI]⟩ hx (by simpa [jc,cntI] using hc)
theorem q0u {fs:List Fld} (h:zv fs = .no):yf (xj fs)∧(xj fs).kind=3:=by
 obtain⟨h1,h2,h3⟩:=qe8 h;unfold xj;rw [if_pos h];exact⟨q2p ⟨h2,h3⟩ h1,rfl⟩
theorem qmz {l:List za} {i:Nat} {x:za} (h:l[i]? = some x):cntI l=cntI (l.take i)+(if x.kind=3 then 1 else 0)+cntI (l.drop (i+1)):=by
 obtain⟨d6,rfl⟩:=List.getElem?_eq_some_iff.1 h;have:=congrArg cntI (List.take_append_drop i l);rw [qai,List.drop_eq_getElem_cons d6,xd] at this;omega
theorem zdp {l:q9} (h:GL l) (id:Int) (fs:List Fld):GL (xg l id fs).2:=by
 unfold xg;split
 ·exact h
 ·rename_i ha
  split
  ·rename_i hf
   obtain⟨hp,gx⟩:=q0u hf;rcases qkh l id with g | ⟨i,e,g1,g2,g3,g4⟩
   ·omega
   ·rw [g1,Int.toNat_natCast]
    unfold qhl;rw [g2];simp only;have hem:=List.mem_of_getElem? g2;obtain⟨d6,cw⟩:=List.getElem?_eq_some_iff.1 g2;have hek:e.x.kind=3:=(h.ok e hem).2.1 (by omega)
    have dw:cntI ((l.ents.set i ⟨xj fs,e.id⟩).map fun e=>e.x)=cntI (l.ents.map fun e=>e.x):=by
     have a1:=qmz (l:=l.ents.map fun e=>e.x) (i:=i) (x:=e.x) (by simp [g2]);have a2:=qmz (l:=(l.ents.set i ⟨xj fs,e.id⟩).map fun e=>e.x) (i:=i) (x:=xj fs) (by simp [d6]);rw [a1,a2,← List.map_take,← List.map_take,← List.map_drop,← List.map_drop,List.take_set_of_le (Nat.le_refl _),List.drop_set_of_lt (by omega),hek,gx]
    refine⟨fun y hy=>?_,h.nx,?_,?_⟩
    ·rcases List.mem_or_eq_of_mem_set hy with hy|rfl
     ·exact h.ok y hy
     ·exact⟨hp,fun _=>gx,fun _=>by show 0<e.id;omega⟩
    ·exact h.mn.trans (congrArg Int.ofNat dw).symm
    ·exact Nat.le_trans (Nat.le_of_eq dw) h.le
  ·exact h
theorem zfg {l:q9} (h:GL l) (id:Int):GL (delF l id).2:=by
 unfold delF;split
 ·exact h
 ·rcases qkh l id with g | ⟨i,e,g1,g2,g3,g4⟩
  ·omega
  ·rw [g1,Int.toNat_natCast]
   have hem:=List.mem_of_getElem? g2;have hek:e.x.kind=3:=(h.ok e hem).2.1 (by omega);have a1:=qmz (l:=jc l) (i:=i) (x:=e.x) (by simp [jc,g2]);rw [hek,if_pos rfl] at a1
   have a2:cntI (jc (delL l i))=cntI ((jc l).take i)+cntI ((jc l).drop (i+1)):=by
    unfold delL jc;rw [List.map_append,qai,List.map_take,List.map_drop]
   have hm:=h.mn;have hl:=h.le;refine⟨fun y hy=>?_,h.nx,?_,?_⟩
   ·rcases List.mem_append.1 hy with hy|hy
    ·exact h.ok y (List.mem_of_mem_take hy)
    ·exact h.ok y (List.mem_of_mem_drop hy)
   ·rw [a2]
    show l.many - 1=_
    omega
   ·rw [a2]
    omega
theorem zfy {l:q9} (h:GL l) (id:Int) (fs:List Fld):GL (insF l id fs).2.2:=by
 unfold insF;split
 ·exact h
 ·split
  ·rename_i hf
   obtain⟨hp,gx⟩:=q0u hf;split
   ·exact h
   ·rename_i hm4
    generalize (atF l id+1).toNat=k
    have a1:cntI (jc (insL l k (xj fs)))=cntI (jc l)+1:=by
     unfold insL jc;rw [List.map_append,qai,List.map_cons,xd,gx,if_pos rfl,List.map_take,List.map_drop];have:=congrArg cntI (List.take_append_drop k (l.ents.map fun e=>e.x));rw [qai] at this;omega
    have hm:=h.mn;have hl:=h.le;have hn:=h.nx;refine⟨fun y hy=>?_,?_,?_,?_⟩
    ·rcases List.mem_append.1 hy with hy|hy
     ·exact h.ok y (List.mem_of_mem_take hy)
     ·rcases List.mem_cons.1 hy with rfl|hy
      ·exact⟨hp,fun _=>gx,fun _=>by show 0<l.next;omega⟩
      ·exact h.ok y (List.mem_of_mem_drop hy)
    ·show 1≤l.next+1
     omega
    ·rw [a1]
     show l.many+1=_
     omega
    ·rw [a1]
     omega
  ·exact h
theorem zgs {l:q9} (h:GL l) (x:qp):GL (oneF l x).2.2:=by
 unfold oneF;split
 ·exact zdp h _ _
 ·split
  ·exact zfg h _
  ·exact zfy h _ _
theorem qvm:∀ (b:List qp) (k:Nat) (l:q9) (ids:List Int),GL l→GL (wc k b l ids).2.1
 | [],_,l,_,h=>h
 |x::r,k,l,ids,h=>by
  unfold wc;split
  ·exact qvm r _ _ _ (zgs h x)
  ·exact h
theorem zh4 {l:q9} (h:GL l) (b:List qp):GL (doF l b).2.1:=by
 unfold doF;split
 ·exact qvm b 0 l [] h
 ·exact h
theorem qj9 {text:qc} (h:vb text = .no):(jj text).1=none∧text.length≤60000∧itsE text=(jj text).2:=by
 unfold vb at h;unfold itsE;split at h
 ·simp at h
 ·rename_i hl
  rw [if_neg hl];refine⟨?_,by omega,rfl⟩
  cases hp:(jj text).1 with
  |none=>rfl
  |some x=>rw [hp] at h;simp at h
end Go.Pl
namespace Go.Pl
open Go Go.Proofs
def cntF (es:List EntV):Nat:=es.countP fun e=>decide (0<e.id)
theorem qvd (es:List EntV) (e:EntV):cntF (es++[e])=cntF es+if 0<e.id then 1 else 0:=by
 unfold cntF;rw [List.countP_append];by_cases h:0<e.id <;> simp [h]
end Go.Pl
namespace Go.Pl
open Go Go.Proofs Go.Av
def LM (l:q9):Prop:=l.many=cntF l.ents
theorem qfo (a b:List EntV):cntF (a++b)=cntF a+cntF b:=by simp [cntF]
theorem qi1 (e:EntV) (b:List EntV):cntF (e::b)=(if 0<e.id then 1 else 0)+cntF b:=by
 by_cases h:0<e.id <;> simp [cntF,h] <;> omega
theorem q8r {l:List EntV} {i:Nat} {e:EntV} (h:l[i]? = some e):l=l.take i++e::l.drop (i+1):=by
 obtain⟨hi,rfl⟩:=List.getElem?_eq_some_iff.1 h;rw [← List.drop_eq_getElem_cons hi,List.take_append_drop]
theorem zdt {l:q9} (h:LM l) (id:Int) (fs:List Fld):LM (xg l id fs).2:=by
 unfold xg;split
 ·exact h
 ·split
  ·unfold qhl
   split
   ·rename_i e he
    unfold LM at h ⊢;simp only;rw [h];have h1:=q8r he;have hi:=lt_of_getElem? he;rw [List.set_eq_take_append_cons_drop,if_pos hi]
    conv=>lhs;rw [h1]
    rw [qfo,qfo,qi1,qi1]
   ·exact h
  ·exact h
theorem zfk {l:q9} (h:LM l) (id:Int):LM (delF l id).2:=by
 unfold delF;split
 ·exact h
 ·rename_i hn
  rcases qkh l id with g | ⟨i,e,g,he,cj,hid1⟩
  ·exact absurd (by rw [g];decide) hn
  ·rw [g,Int.toNat_natCast]
   unfold LM delL at *;simp only;rw [h];have h1:=q8r he
   conv=>lhs;rw [h1]
   rw [qfo,qfo,qi1,if_pos (by omega)];omega
theorem zf2 {l:q9} (h:LM l) (hn:1≤l.next) (id:Int) (fs:List Fld):LM (insF l id fs).2.2:=by
 unfold insF;split
 ·exact h
 ·split
  ·split
   ·exact h
   ·unfold LM insL at *
    simp only;rw [h,qfo,qi1,if_pos (by simp only;omega)]
    conv=>lhs;rw [← List.take_append_drop (atF l id+1).toNat l.ents]
    rw [qfo];omega
  ·exact h
theorem q0i:∀ (its:List za) (l:q9),LM l→1≤l.next→LM (its.foldl wp l)∧1≤(its.foldl wp l).next
 | [],l,h,hn=>⟨h,hn⟩
 |x::r,l,h,hn=>by
  rw [List.foldl_cons];unfold wp;split
  ·refine q0i r _ ?_ (by simp only;omega)
   unfold LM at *;simp only;rw [qvd,if_pos (by simp only;omega),h];omega
  ·refine q0i r _ ?_ hn
   unfold LM at *;simp only;rw [qvd,if_neg (by simp),h];omega
theorem q9r (its:List za):LM (ofF its):=(q0i its ⟨[],1,0⟩ (by simp [LM,cntF]) (by decide)).1
end Go.Pl
namespace Go.Proofs.YtapblfabkbdgcaaGreatDoor
open Go Go.Av Go.RowKit Go.Proofs Go.Pl
theorem zgu {l:q9} (h:LM l) (hn:1≤l.next) (x:qp):LM (oneF l x).2.2:=by
 unfold oneF;split
 ·exact zdt h _ _
 ·split
  ·exact zfk h _
  ·exact zf2 h hn _ _
theorem qvp:∀ (b:List qp) (k n:Nat) (l:q9) (ids:List Int),LM l→LB n l→n+b.length<900000→LM (wc k b l ids).2.1
 | [],k,n,l,ids,h,_,_=>h
 |x::r,k,n,l,ids,h,hB,hs=>by
  simp only [List.length_cons] at hs;unfold wc;split
  ·exact qvp r (k+1) (n+1) _ _ (zgu h hB.nx0 x) (que hB (by omega) x) (by omega)
  ·exact h
theorem zh7 {n:Nat} {l:q9} (h:LM l) (hB:LB n l) (hs:n+40<900000) (b:List qp):LM (doF l b).2.1:=by
 unfold doF;split
 ·rename_i he
  obtain⟨h1,h2,_⟩:=qbt he;exact qvp b 0 n l [] h hB (by omega)
 ·exact h
end Go.Proofs.YtapblfabkbdgcaaGreatDoor
namespace Go.Pl
open Go Go.Proofs Go.Proofs.YtapblfabkbdgcaaGreatDoor
theorem qs3 (x:za) (r:List za):ji (x::r)=x.raw++ji r:=by simp [ji]
theorem zdk {its:List za} {x:za} (h:x∈its):x.raw.length≤(ji its).length:=by
 induction its with
 |nil=>simp at h
 |cons y r ih=>
  rw [qs3,List.length_append];rcases List.mem_cons.1 h with rfl|h
  ·omega
  ·have:=ih h
   omega
structure PR (m:Nat) (p:PSt):Prop where
 tot:(ji p.items).length+(zf p.block).length≤m
 fl:∀ x∈p.items,x.fields.length<900000
theorem qm8 {m:Nat} {p:PSt} (h:PR m p):PR m (jn p).2:=by
 unfold jn;split
 ·exact h
 ·split
  ·exact h
  ·split
   ·exact h
   ·exact⟨h.tot,h.fl⟩
theorem q8o {m:Nat} {p:PSt} (h:PR m p) (hf:p.fields.length<900000):PR m (xq p):=by
 have ht:=h.tot;unfold xq;split
 ·exact⟨by simp only [zf,List.flatMap_nil,List.length_nil];omega,h.fl⟩
 ·refine⟨?_,fun x hx=>?_⟩
  ·simp only [qew,qex,List.length_append]
   simp only [zf,List.flatMap_nil,List.length_nil] at ht ⊢;omega
  ·simp only [List.mem_append,List.mem_singleton] at hx
   rcases hx with hx|rfl
   ·exact h.fl x hx
   ·exact hf
theorem qt9 {m n:Nat} {p:PSt} (h:PR m p) (hB:PB n p) (hs:n+1<900000):PR m (endP p).2:=by
 unfold endP;split
 ·exact h
 ·have:=(qgm hB hs).fields
  exact q8o (qm8 h) (by omega)
theorem q7v {m n:Nat} {p:PSt} {no:Int} {text:qc} {ended:Bool} {kind:Int} (h:PR m p) (hB:PB n p) (hs:n+1<900000):PR m (jh p no text ended kind).2:=by
 unfold jh;split
 ·split
  ·exact h
  ·split
   ·exact⟨h.tot,h.fl⟩
   ·exact qm8 ⟨h.tot,h.fl⟩
 ·split
  ·exact qt9 h hB hs
  ·exact qm8 h
theorem yb (a b:List qc):zf (a++b)=zf a++zf b:=by simp [zf]
theorem zd7 {m n:Nat} {p:PSt} {no:Int} {text:qc} {ended:Bool} (h:PR m p) (hB:PB n p) (hs:n+1<900000):PR (m+text.length+1) (wb p no text ended).2:=by
 have more:∀ {q:PSt},PR m q→PR (m+text.length+1) q:=fun h=>⟨by have:=h.tot;omega,h.fl⟩;have h2:PR m (jh p no text ended (qs text)).2:=q7v h hB hs;have ht:=h2.tot;unfold wb;split
 ·exact more h
 ·split
  ·exact more h
  ·split
   ·refine⟨?_,fun x hx=>?_⟩
    ·simp only [qew,qex,List.length_append,List.length_cons,List.length_nil]
     omega
    ·simp only [List.mem_append,List.mem_singleton] at hx
     rcases hx with hx|rfl
     ·exact h2.fl x hx
     ·simp
   ·split
    ·refine⟨?_,h2.fl⟩
     simp only [ki,yb,List.length_append];simp only [zf,List.flatMap_cons,List.flatMap_nil,List.length_append,List.length_cons,List.length_nil] at ht ⊢;omega
    ·refine⟨?_,h2.fl⟩
     simp only [yb,List.length_append];simp only [zf,List.flatMap_cons,List.flatMap_nil,List.length_append,List.length_cons,List.length_nil] at ht ⊢;omega
theorem q4x:∀ (n:Nat) (rest:qc) (k m:Nat) (p:PSt),rest.length≤n→PB (4 * k) p→PR m p→k+rest.length≤60000→PR (m+2 * rest.length) (runL k (zj rest) p).2:=by
 intro n
 induction n with
 |zero=>
  intro rest k m p hr hB hR hk;obtain rfl:rest=[]:=List.eq_nil_of_length_eq_zero (by omega);rw [kv,runL]
  exact qt9 hR hB (by omega)
 |succ n ih=>
  intro rest k m p hr hB hR hk;by_cases b8:rest=[]
  ·subst b8
   rw [kv,runL];exact qt9 hR hB (by omega)
  ·have hu:=vk 10 rest
   have t6:=vo 10 rest;have dg:0<rest.length:=List.length_pos_iff.2 b8;rw [vw b8];simp only [runL];have cn:=qqx (no:=k) (text:=upto 10 rest) (ended:=decide (10∈rest)) hB (by omega) (by omega);have gq:=zd7 (no:=k) (text:=upto 10 rest) (ended:=decide (10∈rest)) hR hB (by omega);split
   ·exact⟨by have:=hR.tot;simp only;omega,hR.fl⟩
   ·have:=ih (past 10 rest) (k+1) _ _ (by omega) cn gq (by omega)
    exact⟨by have:=this.tot;omega,this.fl⟩
theorem zf6 (text:qc):(ji (itsE text)).length≤120000∧∀ x∈itsE text,x.fields.length<900000:=by
 unfold itsE;split
 ·simp [ji]
 ·have h:=q4x text.length text 0 0 p0 (Nat.le_refl _) qxv ⟨by simp [p0,ji,zf],by simp [p0]⟩ (by omega)
  unfold jj;split
  ·simp [ji]
  ·have:=h.tot
   exact⟨by simp only;omega,h.fl⟩
def LI (l:q9):Prop:=∀ e∈l.ents,e.x.raw.length≤1000000∧e.x.fields.length<900000
theorem q9t:∀ (its:List za) (l:q9),LI l→(∀ x∈its,x.raw.length≤1000000∧x.fields.length<900000)→LI (its.foldl wp l)
 | [],l,h,_=>h
 |x::r,l,h,hx=>by
  rw [List.foldl_cons];refine q9t r _ ?_ fun y hy=>hx y (by simp [hy]);have h1:=hx x (by simp);unfold wp;split
  ·intro e he
   simp only [List.mem_append,List.mem_singleton] at he;rcases he with he|rfl
   ·exact h e he
   ·exact h1
  ·intro e he
   simp only [List.mem_append,List.mem_singleton] at he;rcases he with he|rfl
   ·exact h e he
   ·exact h1
theorem qsu (text:qc):LI (ofF (itsE text)):=by
 obtain⟨h1,h2⟩:=zf6 text;refine q9t _ _ (by simp [LI]) fun x hx=>⟨?_,h2 x hx⟩;have:=zdk hx;omega
theorem qwm (fs:List Fld):(xj fs).raw.length≤1000000∧(xj fs).fields.length<900000:=by
 unfold xj;split
 ·rename_i h
  obtain⟨_,g1,g2⟩:=qe8 h;have:=qeo fs g2;exact⟨by simp only;omega,by simp only;omega⟩
 ·exact⟨by simp,by simp⟩
theorem zds {l:q9} (h:LI l) (id:Int) (fs:List Fld):LI (xg l id fs).2:=by
 unfold xg;split
 ·exact h
 ·split
  ·unfold qhl
   split
   ·intro y hy
    rcases List.mem_or_eq_of_mem_set hy with hy|rfl
    ·exact h y hy
    ·exact qwm fs
   ·exact h
  ·exact h
theorem zfj {l:q9} (h:LI l) (id:Int):LI (delF l id).2:=by
 unfold delF;split
 ·exact h
 ·intro y hy
  simp only [delL,List.mem_append] at hy;rcases hy with hy|hy
  ·exact h y (List.mem_of_mem_take hy)
  ·exact h y (List.mem_of_mem_drop hy)
theorem zf1 {l:q9} (h:LI l) (id:Int) (fs:List Fld):LI (insF l id fs).2.2:=by
 unfold insF;split
 ·exact h
 ·split
  ·split
   ·exact h
   ·intro y hy
    simp only [insL,List.mem_append,List.mem_cons] at hy;rcases hy with hy|rfl|hy
    ·exact h y (List.mem_of_mem_take hy)
    ·exact qwm fs
    ·exact h y (List.mem_of_mem_drop hy)
  ·exact h
theorem qri:∀ (its:List za) (b:Bool),(∀ x∈its,x.raw.length≤1000000)→(ji (jz b its)).length≤1000001 * its.length
 | [],b,h=>by simp [jz,ji]
 |x::r,b,h=>by
  have ih:=qri r (decide (x.kind≠1)) fun y hy=>h y (by simp [hy]);have hx:=h x (by simp);rw [jz,qew,List.length_append];split
  ·rw [qs3,qex]
   simp only [List.length_append,List.length_cons,List.length_nil];omega
  ·rw [qex]
   simp only [List.length_cons];omega
theorem zd9 {n:Nat} {l:q9} (hB:LB n l) (h:LI l):(qap l).length≤1000000000000:=by
 have h1:=qri (jc l) false fun x hx=>by
  obtain⟨e,he,rfl⟩:=List.mem_map.1 hx;exact (h e he).1
 have h2:=hB.len;have h3:=hB.small;unfold qap y8;have:(jc l).length=l.ents.length:=by simp [jc]
 omega
end Go.Pl
namespace Go.Proofs.YtapblfabkbdgcaaGreatDoor
open Go Go.Av Go.RowKit Go.Proofs Go.Pl
theorem zgt {l:q9} (h:LI l) (x:qp):LI (oneF l x).2.2:=by
 unfold oneF;split
 ·exact zds h _ _
 ·split
  ·exact zfj h _
  ·exact zf1 h _ _
theorem qvo:∀ (b:List qp) (k:Nat) (l:q9) (ids:List Int),LI l→LI (wc k b l ids).2.1
 | [],k,l,ids,h=>h
 |x::r,k,l,ids,h=>by
  unfold wc;split
  ·exact qvo r (k+1) _ _ (zgt h x)
  ·exact h
theorem zh6 {l:q9} (h:LI l) (b:List qp):LI (doF l b).2.1:=by
 unfold doF;split
 ·exact qvo b 0 l [] h
 ·exact h
theorem zf5 {n:Nat} {l:q9} (hB:LB n l) (h:LI l):ItsB (jc l):=by
 have h1:=hB.len;have h2:=hB.small;refine⟨by simp [jc];omega,fun x hx=>?_⟩;obtain⟨e,he,rfl⟩:=List.mem_map.1 hx;have:=(h e he).2;omega
end Go.Proofs.YtapblfabkbdgcaaGreatDoor
namespace Go.Pl
open Go Go.Proofs
def qa8:List EntV→Option (EntV×List EntV)
 | []=>none
 |e::r=>if 0<e.id then some (e,r) else qa8 r
def stzF (es:List EntV):List (Int×List Fld):=(es.filter fun e=>decide (0<e.id)).map fun e=>(e.id,e.x.fields)
theorem qso:∀ {r:List EntV},qa8 r=none→stzF r=[]
 | [],_=>rfl
 |e::r,h=>by
  unfold qa8 at h;split at h
  ·simp at h
  ·rename_i h0
   have:=qso h
   simpa [stzF,h0] using this
theorem qsp:∀ {r:List EntV} {e:EntV} {q:List EntV},qa8 r=some (e,q)→0<e.id∧e∈r∧stzF r=(e.id,e.x.fields)::stzF q∧q.length<r.length∧∀ y∈q,y∈r
 |x::r,e,q,h=>by
  unfold qa8 at h;split at h
  ·rename_i h0
   simp only [Option.some.injEq,Prod.mk.injEq] at h;obtain⟨rfl,rfl⟩:=h;exact⟨h0,by simp,by simp [stzF,h0],by simp,fun y hy=>by simp [hy]⟩
  ·rename_i h0
   obtain⟨h1,h2,h3,h4,h5⟩:=qsp h;exact⟨h1,by simp [h2],by simpa [stzF,h0] using h3,by simp;omega,fun y hy=>by simp [h5 y hy]⟩
end Go.Pl
namespace Go.Proofs.YtapblfabkbdgcaaGreatDoor
open Go Go.Av Go.RowKit Go.Proofs Go.Pl
theorem zi2 {m:Nat} {T:TypeId} {S':List AObj} {cs0:List AV} (h:S'.length=m∨∃ cs,S'[m]? = some (.cells 0 T cs)):∃ cs,(S'++[AObj.cells 0 T cs0])[m]? = some (.cells 0 T cs):=by
 rcases h with rfl | ⟨cs,h⟩
 ·exact⟨cs0,by simp⟩
 ·exact⟨cs,by rw [List.getElem?_append_left (lt_of_getElem? h)];exact h⟩
theorem zi3 {m:Nat} {T:TypeId} {S':List AObj} (h:S'.length=m∨∃ cs,S'[m]? = some (.cells 0 T cs)):m≤S'.length:=by
 rcases h with rfl | ⟨cs,h⟩
 ·omega
 ·exact Nat.le_of_lt (lt_of_getElem? h)
theorem qur {L:List (Tmp×AV)} {st:List AObj} {df:List Nat} {s:AS} (h:StA L st df s):StA L (st++[]) df s:=by
 rw [List.append_nil];exact h
theorem zev (l:q9) (o kb n m:Nat) (I:List EntV→List AObj→Prop) (D:List AObj→Prop) (S:List AObj) (hm:S.length=m) (hn:n≤m) (hl:l.ents.length<1000000) (h0:I l.ents S)
  (hI:∀ r S',I r S'→S'[kb]? = some (.cells 0 59 [vt l]))
  (d8:∀ r S' S'',Ext n S' S''→I r S'→I r S'')
  (hY:∀ r e q S' cs,I r S'→S'[m]? = some (.cells 0 109 cs)→qa8 r=some (e,q)→ye E o [entA e] S' fun b S''=>S''[m]? = some (.cells 0 109 cs)∧(b=true→I q S'')∧(b=false→D S'')) :
  qo E 162 [.yd o,.bx kb 0 0] S fun r S'=>(∃ i,qa8 i=none∧I i S')∨D S':=by
 refine qr Tryz.func162 rfl (Nat.le_of_ble_eq_true rfl) ?_;have hb:=hI _ S h0;have hmi:(l.ents.map entA).length=l.ents.length:=by simp
 repeat' (first|apply qm|apply qu|apply qg|apply qh|apply ql|(apply qe;exact rfl;apply cd_f;exact cRa)|(apply ja;(iterate 4 exact rfl))|(apply y7;(iterate 4 exact rfl))|(apply jo;(iterate 3 exact rfl))|(apply wy;exact rfl;exact rfl)|(apply qas;(iterate 3 exact rfl))|apply qw|(apply qar;exact rfl;exact rfl;exact hb;exact rfl;exact rfl))
 refine ju (fun (k:Nat) s=>∃ S' r,I r S'∧(S'.length=m∨∃ cs,S'[m]? = some (.cells 0 109 cs))∧k≤l.ents.length∧qa8 r=qa8 (l.ents.drop k)∧StA [(0,.yd o),(10,.sl 4 (l.ents.map entA) none),(11,Iv l.ents.length),(12,Iv k)] (S'++[]) [] s) (fun k=>l.ents.length - k) 0
  ⟨_,_,d8 _ _ _ (qhv (by omega)) h0,.inl (by simpa using hm),by omega,by simp,qur (jd ⟨rfl,rfl,congrArg (fun n:Nat=>Iv (n:Int)) hmi,rfl,trivial⟩)⟩ ?_
 rintro k _ ⟨S',r,hi,bm,hk,s4,t,rfl⟩;have i6:=zi3 bm;by_cases i7:k<l.ents.length
 ·have hx:l.ents[k]? = some l.ents[k]:=List.getElem?_eq_getElem i7
  have m3:(l.ents.map entA)[k]? = some (entA l.ents[k]):=by rw [List.getElem?_map,hx];rfl
  rw [List.drop_eq_getElem_cons i7,qa8] at s4;generalize l.ents[k]=e at hx m3 s4;obtain⟨cs,nq⟩:=zi2 (cs0:=(entA e).cells) bm;by_cases he:0<e.id
  ·rw [if_pos he] at s4
   repeat' (first|apply qm|apply qu|apply qg|apply qh|apply ql|(apply qt;(iterate 3 exact rfl))|(apply zm;(iterate 4 exact rfl))|(apply qfs;exact cAo)|(apply qe;exact rfl;apply vj;exact cAo)|(apply jp;exact rfl;exact rfl)|(apply zg;(iterate 3 exact rfl))|(apply jo;(iterate 3 exact rfl))|(apply jf;(iterate 5 exact rfl))|(apply z4;(iterate 11 exact rfl))|apply qw|(apply j8 (n:=k);(iterate 5 exact rfl);exact m3))
   apply qc9 (o:=o) rfl;refine ye.mono (hY r e _ _ cs (d8 _ _ _ (qhv (by omega)) hi) nq s4) ?_;rintro b S2 ⟨h1,h2,h3⟩
   show AOps _ _ _ _ _ _ _
   cases b
   ·skip
    repeat' (first|apply qh|(apply kp;exact rfl)|(apply zm;(iterate 4 exact rfl))|(apply qfs;exact cAo)|(apply qx;exact rfl;apply qdj;exact cAo)|(apply qe;exact rfl;apply qoa;exact cRa)|apply q6)
    exact qn rfl (yu rfl) (.inr (h3 rfl))
   ·skip
    repeat' (first|apply qg|apply qh|apply ql|(apply kp;exact rfl)|(apply zm;(iterate 4 exact rfl))|(apply qfs;exact cAo)|(apply qx;exact rfl;apply qdj;exact cAo)|(apply qe;exact rfl;apply qrp;exact cRa)|(apply zn;exact rfl;exact rfl;exact zb (by omega) (by omega))|apply qw)
    exact⟨k+1,⟨_,_,h2 rfl,.inr ⟨cs,h1⟩,by omega,rfl,qur (jd ⟨rfl,rfl,rfl,rfl,trivial⟩)⟩,by omega⟩
  ·rw [if_neg he] at s4
   repeat' (first|apply qm|apply qu|apply qg|apply qh|apply ql|(apply qt;(iterate 3 exact rfl))|(apply zm;(iterate 4 exact rfl))|(apply qna;exact cAo)|(apply qx;exact rfl;apply qd4;exact cAo)|(apply qe;exact rfl;apply vj;exact cAo)|(apply qe;exact rfl;apply cd_f;exact cRa)|(apply zn;exact rfl;exact rfl;exact zb (by omega) (by omega))|(apply jp;exact rfl;exact rfl)|(apply zg;(iterate 3 exact rfl))|(apply jo;(iterate 3 exact rfl))|(apply jf;(iterate 5 exact rfl))|(apply z4;(iterate 11 exact rfl))|apply qw|(apply j8 (n:=k);(iterate 5 exact rfl);exact m3))
   exact⟨k+1,⟨_,_,d8 _ _ _ (qhv (by omega)) hi,.inr ⟨cs,nq⟩,by omega,s4,qur (jd ⟨rfl,rfl,rfl,rfl,trivial⟩)⟩,by omega⟩
 ·rw [List.drop_of_length_le (by omega),qa8] at s4
  repeat' (first|apply qm|apply qg|apply qh|(apply qt;(iterate 3 exact rfl))|(apply qe;exact rfl;apply wm;exact cAo)|apply jg)
  exact qn rfl (yu rfl) (.inl ⟨r,s4,d8 _ _ _ (qhv (by omega)) hi⟩)
def allY (r:List EntV):Option (SV×List EntV):=(qa8 r).map fun x=>(.a (entA x.1),x.2)
theorem zhu (l:q9) (hl:l.ents.length<1000000):ItC 162 59 [vt l] (evY allY) l.ents:=⟨fun o kb n m I D S hm hn h0 hI d8 hY=>by
 refine (zev l o kb n m I D S hm hn hl h0 hI d8 fun r e q S' cs hi bm hx=>?_).mono ?_
 ·refine (hY r (entA e) q S' [.cells 0 109 cs] hi (fun j y hy=>?_) (by simp [evY,allY,hx,SV.ev])).mono fun b S'' ⟨h1,h2,h3⟩=>⟨by have:=h1 0 _ rfl;simpa using this,h2,h3⟩
  match j with
  | 0=>
   simp only [List.getElem?_cons_zero,Option.some.injEq] at hy;subst hy
   exact⟨bm,yw rfl⟩
  |j+1=>simp at hy
 ·rintro r S' (⟨i,h1,h2⟩|h)
  ·exact .inl ⟨i,by simp [evY,allY,h1],h2⟩
  ·exact .inr h⟩
theorem zil (l:q9):ko E 119 [.a (vt l)] 0 (hpF []) ⟨.fn (.func 162) [] [.bx 0 0],j7 [],[(0,some (.cells 59 [.a (vt l)]))]++vh [],1⟩:=by
 refine wq [.a (vt l)] [] 0 (.fn (.func 162) [] [.bx 0 0]) [(0,some (.cells 59 [.a (vt l)]))] 1 Tryz.func119 rfl rfl rfl rfl fun S F ρ=>?_;apply qf [1];repeat' (first|apply And.intro|(intro h;try exact cDd)|exact cSd|apply qd [1]|refine exr ?_|refine qk ?_)
@[reducible] def stzA (x : Int × List Fld) : AV := .ag [Iv x.1, zp x.2]
@[reducible] def qxz (s : List (Int × List Fld)) : AV := .sl 2 (s.map stzA) none
theorem q7d (s:List (Int×List Fld)):Pure (qxz s):=qch fun x hx=>by
 obtain⟨f,_,rfl⟩:=List.mem_map.1 hx;intro y hy;simp only [AV.cells,List.mem_cons,List.not_mem_nil,or_false] at hy;rcases hy with rfl|rfl
 ·exact q8 _
 ·exact qa6 _
theorem qin (es:List EntV):(stzF es).length≤es.length:=by
 unfold stzF;rw [List.length_map];exact List.length_filter_le _ _
theorem q1m {N:Nat} {B:Bs} {C:Conf} {Q:Exit→Conf→Prop} {X:Type} {f:Operand} {p:Tmp} {asg body:Code} (l:q9) (kb n0:Nat) (ks:List Nat) (I:X→Conf) (sl0:List (Nat×SV)) (P:List EntV→X→Prop) (D:Code→X→Prop) (x0:X) (h0:P l.ents x0)
  (he:EntA B.n0 C (I x0)) (hz:¬ B.dz) (hl:l.ents.length<1000000) (dv:∀ x,(I x).sl=sl0)
  (hf:sval N sl0 f=some (.fn (.func 162) [] [.bx kb 0]))
  (hkb:∀ x,lkS (I x).hp kb=some (some (.cells 59 [.a (vt l)])))
  (hr:∀ x,qca n0 ks (I x).sl (I x).hp (I x).nx=true) (h0r:(ksIn n0 ks (I x0).hp && Nat.ble B.n0 n0)=true)
  (hb:∀ r e q x,P r x→qa8 r=some (e,q)→RA E N n0 asg (fun F ρ C1=>RB E N F ρ n0 body (rndQ n0 (P q) D I) C1) ⟨(p,.a (entA e))::(I x).sl,(I x).hp,(I x).nx⟩)
  (hn:∀ r x,qa8 r=none→P r x→Q .normal (I x)) (hd:∀ c x,D c x→q5x Q c (I x)):Sm E none N B (.rangeFunc f #[p] asg body) Q C:=by
 refine qps (zhu l hl) Tryz.call162 (fun i v j h=>?_) kb n0 [.a (vt l)] (fun _=>rfl) ks I sl0 P D x0 h0 he hz dv hf hkb hr h0r (fun i x v j hp h=>?_) (fun i x h hp=>?_) hd
 ·unfold allY at h
  cases hx:qa8 i with
  |none=>rw [hx] at h;simp at h
  |some y=>
   rw [hx] at h;simp only [Option.map_some,Option.some.injEq,Prod.mk.injEq] at h;rw [← h.1]
   try rfl
 ·unfold allY at h
  cases hx:qa8 i with
  |none=>rw [hx] at h;simp at h
  |some y=>
   rw [hx] at h;simp only [Option.map_some,Option.some.injEq,Prod.mk.injEq] at h;obtain⟨h1,h2⟩:=h;rw [← h1,← h2];exact hb i y.1 y.2 x hp hx
 ·unfold allY at h
  cases hx:qa8 i with
  |none=>exact hn i x hx hp
  |some y=>rw [hx] at h;simp at h
theorem qsm (l:q9) (st:List AObj) (hl:l.ents.length<1000000) (hI:∀ e∈l.ents,e.x.fields.length<1000000):qo E 81 [vt l] st fun r st'=>r=qxz (stzF l.ents)∧st'=st:=by
 refine zw [.a (vt l)] (q7d _) Tryz.func81 rfl rfl (fun _=>rfl) rfl fun S0=>?_;apply qf [];repeat' (first|apply And.intro|(intro h;try exact cDd)|exact⟨Tryz.call119⟩|(refine jk (zil l) ?_)|exact cSd|apply qd []|refine exr ?_|refine qk ?_)
 refine q1m (X:=List (Int×List Fld)) l 1 2 [0,1] (fun out=>⟨[(3,.bx 0 0),(6,.fn (.func 162) [] [.bx 1 0])],[(0,some (.cells 152 [.tp 2])),(1,some (.cells 59 [.a (vt l)])),(2,some (.tip 2 155 (out.map stzA)))],3⟩) _
  (fun r out=>out++stzF r=stzF l.ents∧out.length+r.length≤l.ents.length∧∀ y∈r,y∈l.ents) (fun _ _=>False) [] ⟨by simp,by simp,fun _ h=>h⟩ ?_ id hl (fun _=>rfl) rfl (fun _=>rfl) (fun _=>rfl) rfl ?_ ?_ (fun _ _ h=>h.elim)
 ·skip
  repeat' (first|apply And.intro|(intro h;try exact cDd)|exact cSd|apply qd []|refine exr ?_|refine qk ?_)
 ·rintro r e q out ⟨h1,h2,h3⟩ hx
  obtain⟨g1,g2,g3,g4,g5⟩:=qsp hx;rw [g3] at h1;have cg:=fun st=>qb7 e.x.fields st (hI e (h3 e g2));have i6:(out.map stzA).length=out.length:=by simp
  refine RA.mk fun S F ρ rd=>?_;apply qf [];repeat' (first|apply And.intro|(intro h;try exact cDd)|(refine RB.mk fun S rd=>?_;apply qf [])|exact⟨Tryz.call91⟩|refine cpe cg ?_|(refine Exists.intro (out++[(e.id,e.x.fields)]) ⟨⟨by rw [← h1];simp,by simp;omega,fun y hy=>h3 y (g5 y hy)⟩,?_⟩)|exact cSd|apply qd []|refine exr ?_|refine qk ?_)
  all_goals first|(simp [SV.evs,SV.ev];done)|(simp [SV.evs];omega)
 ·rintro r out hx ⟨h1,h2,h3⟩
  rw [qso hx,List.append_nil] at h1;rw [← h1];repeat' (first|apply And.intro|(intro h;try exact cDd)|exact cSd|apply qd []|refine exr ?_|refine qk ?_)
end Go.Proofs.YtapblfabkbdgcaaGreatDoor
namespace Go.Pl
open Go Go.Proofs
theorem ql2 (a b:List EntV):stzF (a++b)=stzF a++stzF b:=by simp [stzF]
end Go.Pl
namespace Go.Pl
open Go Go.Proofs Go.Proofs.YtapblfabkbdgcaaGreatDoor
def idsL (es:List EntV):List Int:=(es.filter fun e=>decide (0<e.id)).map fun e=>e.id
theorem qbl (a b:List EntV):idsL (a++b)=idsL a++idsL b:=by simp [idsL]
theorem qes (e:EntV) (b:List EntV):idsL (e::b)=if 0<e.id then e.id::idsL b else idsL b:=by
 unfold idsL;by_cases h:0<e.id
 ·rw [if_pos h,List.filter_cons_of_pos (by simpa using h)];rfl
 ·rw [if_neg h,List.filter_cons_of_neg (by simpa using h)]
theorem qqk {es:List EntV} {n:Int}:n∈idsL es↔0<n∧∃ e∈es,e.id=n:=by
 unfold idsL;simp only [List.mem_map,List.mem_filter,decide_eq_true_eq];constructor
 ·rintro⟨e,⟨he,h⟩,rfl⟩
  exact⟨h,e,he,rfl⟩
 ·rintro⟨h,e,he,rfl⟩
  exact⟨e,⟨he,h⟩,rfl⟩
structure GN (l:q9):Prop where
 nd:(idsL l.ents).Nodup
 lt:∀ e∈l.ents,e.id<l.next
 nx:1≤l.next
theorem q9v {l:q9} {x:za} (h:GN l):GN (wp l x):=by
 obtain⟨h1,h2,h3⟩:=h;unfold wp;split
 ·refine⟨?_,fun e he=>?_,by simp only;omega⟩
  ·simp only
   rw [qbl,qes,if_pos (by simp only;omega)];refine List.nodup_append.2 ⟨h1,by simp [idsL],fun a ha b hb=>?_⟩;obtain⟨_,e,he,rfl⟩:=qqk.1 ha;have:=h2 e he;simp [idsL] at hb;omega
  ·rcases List.mem_append.1 he with he|he
   ·have:=h2 e he;simp only;omega
   ·simp only [List.mem_cons,List.not_mem_nil,or_false] at he;subst he;simp only;omega
 ·refine⟨?_,fun e he=>?_,h3⟩
  ·simp only
   rw [qbl,qes,if_neg (by simp)]
   simpa [idsL] using h1
  ·rcases List.mem_append.1 he with he|he
   ·exact h2 e he
   ·simp only [List.mem_cons,List.not_mem_nil,or_false] at he;subst he;simp only;omega
theorem qwd:∀ (its:List za) (l:q9),GN l→GN (its.foldl wp l)
 | [],l,h=>h
 |x::r,l,h=>qwd r (wp l x) (q9v h)
theorem q9q (its:List za):GN (ofF its):=qwd its ⟨[],1,0⟩ ⟨by simp [idsL],by simp,by simp⟩
theorem zcn {es:List EntV} {i:Nat} {e:EntV} {x:za} (h:es[i]? = some e):idsL (es.set i ⟨x,e.id⟩)=idsL es:=by
 obtain⟨d6,rfl⟩:=List.getElem?_eq_some_iff.1 h;have e1:=List.take_append_drop i es;rw [List.drop_eq_getElem_cons d6] at e1;rw [List.set_eq_take_append_cons_drop,if_pos d6]
 conv=>rhs;rw [← e1]
 rw [qbl,qbl,qes,qes]
theorem zdq {l:q9} (h:GN l) (id:Int) (fs:List Fld):GN (xg l id fs).2:=by
 unfold xg;split
 ·exact h
 ·split
  ·unfold qhl
   split
   ·rename_i e he
    refine⟨by simp only;rw [zcn he];exact h.nd,fun y hy=>?_,h.nx⟩;rcases List.mem_or_eq_of_mem_set hy with hy|rfl
    ·exact h.lt y hy
    ·exact h.lt e (List.mem_of_getElem? he)
   ·exact h
  ·exact h
theorem zfh {l:q9} (h:GN l) (id:Int):GN (delF l id).2:=by
 unfold delF;split
 ·exact h
 ·generalize (atF l id).toNat=i
  refine⟨?_,fun y hy=>?_,h.nx⟩
  ·have:=h.nd
   rw [← List.take_append_drop i l.ents,qbl] at this;unfold delL;simp only;rw [qbl];refine List.Nodup.sublist (List.Sublist.append (List.Sublist.refl _) ?_) this;unfold idsL;refine List.Sublist.map _ (List.Sublist.filter _ ?_);rw [← List.drop_drop];exact List.drop_sublist 1 _
  ·rcases List.mem_append.1 hy with hy|hy
   ·exact h.lt y (List.mem_of_mem_take hy)
   ·exact h.lt y (List.mem_of_mem_drop hy)
theorem zfz {l:q9} (h:GN l) (id:Int) (fs:List Fld):GN (insF l id fs).2.2:=by
 unfold insF;split
 ·exact h
 ·split
  ·split
   ·exact h
   ·generalize (atF l id+1).toNat=k
    have hn:=h.nx;refine⟨?_,fun y hy=>?_,by simp only [insL];omega⟩
    ·have:=h.nd
     rw [← List.take_append_drop k l.ents,qbl] at this;unfold insL;simp only;rw [qbl,qes,if_pos (by simp only;omega)];refine (List.perm_middle.nodup_iff).2 (List.nodup_cons.2 ⟨fun hm=>?_,this⟩);rw [← qbl,List.take_append_drop] at hm;obtain⟨_,e,he,dq⟩:=qqk.1 hm;have dq:e.id=l.next:=dq;have:=h.lt e he;omega
    ·show y.id<l.next+1
     rcases List.mem_append.1 hy with hy|hy
     ·have:=h.lt y (List.mem_of_mem_take hy);omega
     ·rcases List.mem_cons.1 hy with rfl|hy
      ·simp only;omega
      ·have:=h.lt y (List.mem_of_mem_drop hy);omega
  ·exact h
theorem qe1 (e:EntV) (b:List EntV):stzF (e::b)=if 0<e.id then (e.id,e.x.fields)::stzF b else stzF b:=by
 unfold stzF;by_cases h:0<e.id
 ·rw [if_pos h,List.filter_cons_of_pos (by simpa using h)];rfl
 ·rw [if_neg h,List.filter_cons_of_neg (by simpa using h)]
theorem qgu:∀ (es:List EntV) (a b:List (Int×List Fld)) (x:Int×List Fld),stzF es=a++x::b→∃ A e B,es=A++e::B∧stzF A=a∧stzF B=b∧0<e.id∧x=(e.id,e.x.fields)
 | [],a,b,x,h=>by
  have:stzF []=[]:=rfl;rw [this] at h
  cases a <;> simp at h
 |e::r,a,b,x,h=>by
  rw [qe1] at h;by_cases he:0<e.id
  ·rw [if_pos he] at h
   cases a with
   |nil=>
    simp only [List.nil_append,List.cons.injEq] at h
    exact⟨[],e,r,rfl,rfl,h.2,he,h.1.symm⟩
   |cons y a=>
    simp only [List.cons_append,List.cons.injEq] at h;obtain⟨A,e',B,rfl,h1,h2,h3,h4⟩:=qgu r a b x h.2;exact⟨e::A,e',B,rfl,by rw [qe1,if_pos he,h1,h.1],h2,h3,h4⟩
  ·rw [if_neg he] at h
   obtain⟨A,e',B,rfl,h1,h2,h3,h4⟩:=qgu r a b x h;exact⟨e::A,e',B,rfl,by rw [qe1,if_neg he,h1],h2,h3,h4⟩
theorem q4c {id:Int} {e:EntV} {B:List EntV} (he:e.id=id):∀ (A:List EntV) (k:Nat),(∀ y∈A,y.id≠id)→y0 id k (A++e::B)=((k+A.length:Nat):Int)
 | [],k,_=>by
  rw [List.nil_append,y0,if_pos he]
  rfl
 |y::A,k,h=>by
  rw [List.cons_append,y0,if_neg (h y (by simp)),q4c he A (k+1) fun z hz=>h z (by simp [hz])];simp only [List.length_cons];omega
theorem qpy {l:q9} {A B:List EntV} {e:EntV} (h:GN l) (hs:l.ents=A++e::B) (he:0<e.id):atF l e.id=(A.length:Int):=by
 unfold atF;rw [if_neg (by omega),hs,q4c rfl A 0 fun y hy hh=>?_]
 ·simp
 ·have u6:=h.nd
  rw [hs,qbl,qes,if_pos he] at u6;have hm:y.id∈idsL A:=qqk.2 ⟨by omega,y,hy,rfl⟩;exact (List.nodup_append.1 u6).2.2 _ hm _ (by simp) hh
theorem zdu {l:q9} {a b:List (Int×List Fld)} {id:Int} {f fs:List Fld} (h:GN l) (hs:stzF l.ents=a++(id,f)::b) (hc:zv fs = .no):(xg l id fs).1 = .no∧stzF (xg l id fs).2.ents=a++(id,fs)::b∧(xg l id fs).2.next=l.next:=by
 obtain⟨A,e,B,h1,h2,h3,h4,h5⟩:=qgu _ _ _ _ hs;simp only [Prod.mk.injEq] at h5;obtain⟨rfl,rfl⟩:=h5;unfold xg;rw [qpy h h1 h4,if_neg (by omega),if_pos hc,Int.toNat_natCast];unfold qhl;have hg:l.ents[A.length]? = some e:=by rw [h1];simp
 rw [hg];refine⟨rfl,?_,rfl⟩;simp only;rw [h1,List.set_append_right _ _ (Nat.le_refl _),Nat.sub_self,List.set_cons_zero,ql2,qe1,if_pos h4,h2,h3];unfold xj;rw [if_pos hc]
theorem zfl {l:q9} {a b:List (Int×List Fld)} {id:Int} {f:List Fld} (h:GN l) (hs:stzF l.ents=a++(id,f)::b):(delF l id).1 = .no∧stzF (delF l id).2.ents=a++b∧(delF l id).2.next=l.next:=by
 obtain⟨A,e,B,h1,h2,h3,h4,h5⟩:=qgu _ _ _ _ hs;simp only [Prod.mk.injEq] at h5;obtain⟨rfl,rfl⟩:=h5;unfold delF;rw [qpy h h1 h4,if_neg (by omega),Int.toNat_natCast];refine⟨rfl,?_,rfl⟩;unfold delL;simp only;rw [h1,List.take_left,show (A++e::B).drop (A.length+1)=B by simp,ql2,h2,h3]
theorem zf3 {l:q9} {a b:List (Int×List Fld)} {bh:Int} {fs:List Fld} (h:GN l) (hs:stzF l.ents=a++b) (hb:bh=(a.getLast?.map Prod.fst).getD 0) (hc:zv fs = .no) :
  (400≤l.many∧(insF l bh fs).2.1 = .num 11)∨((insF l bh fs).2.1 = .no∧stzF (insF l bh fs).2.2.ents=a++(l.next,fs)::b∧(insF l bh fs).2.2.next=l.next+1∧(insF l bh fs).1=l.next):=by
 have hn:=h.nx
 have fin:∀ A B:List EntV,l.ents=A++B→stzF A=a→stzF B=b→atF l bh+1=(A.length:Int)→(¬ (atF l bh<0∧bh≠0)) →
   (400≤l.many∧(insF l bh fs).2.1 = .num 11)∨((insF l bh fs).2.1 = .no∧stzF (insF l bh fs).2.2.ents=a++(l.next,fs)::b∧(insF l bh fs).2.2.next=l.next+1∧(insF l bh fs).1=l.next):=fun A B h1 h2 h3 h4 h5=>by
  unfold insF;rw [if_neg h5,if_pos hc];by_cases hm:400≤l.many
  ·rw [if_pos hm]
   exact .inl ⟨hm,rfl⟩
  ·rw [if_neg hm,h4,Int.toNat_natCast]
   refine .inr ⟨rfl,?_,rfl,rfl⟩;unfold insL;simp only;rw [h1,List.take_left,List.drop_left,ql2,qe1,if_pos (by simp only;omega),h2,h3];unfold xj;rw [if_pos hc]
 rcases List.eq_nil_or_concat a with rfl | ⟨a',x,rfl⟩
 ·have h0:bh=0:=by simpa using hb
  subst h0;refine fin [] l.ents rfl rfl (by simpa using hs) ?_ (by simp);unfold atF;rw [if_pos (by omega)];rfl
 ·have hx:bh=x.1:=by simpa using hb
  subst hx;rw [List.concat_eq_append,List.append_assoc] at hs;obtain⟨A,e,B,h1,h2,h3,h4,h5⟩:=qgu _ _ _ _ hs;subst h5;have ha:=qpy h h1 h4;refine fin (A++[e]) B (by rw [h1];simp) ?_ h3 (by rw [ha];simp) (by rw [ha];omega);rw [ql2,qe1,if_pos h4,h2];simp [stzF]
def zt:List Int→List (Int×List Fld)→List (List Fld)→Int→Int→List qp
 | [],_,_,_,_=>[]
 |w::ws,S,R,bh,nx=>
  if w=4 then⟨3,bh,R.headD []⟩::zt ws S R.tail nx (nx+1)
  else if w=3 then⟨2,(S.headD (0,[])).1,[]⟩::zt ws S.tail R bh nx
  else if w=2 then⟨1,(S.headD (0,[])).1,R.headD []⟩::zt ws S.tail R.tail (S.headD (0,[])).1 nx
  else zt ws S.tail R.tail (S.headD (0,[])).1 nx
inductive OkW:List Int→List (Int×List Fld)→List (List Fld)→Prop
 |nil:OkW [] [] []
 |keep {s:Int×List Fld} {S:List (Int×List Fld)} {R:List (List Fld)} {ws:List Int}:OkW ws S R→OkW (1::ws) (s::S) (s.2::R)
 |change {s:Int×List Fld} {r:List Fld} {S:List (Int×List Fld)} {R:List (List Fld)} {ws:List Int}:OkW ws S R→OkW (2::ws) (s::S) (r::R)
 |drop {s:Int×List Fld} {S:List (Int×List Fld)} {R:List (List Fld)} {ws:List Int}:OkW ws S R→OkW (3::ws) (s::S) R
 |add {r:List Fld} {S:List (Int×List Fld)} {R:List (List Fld)} {ws:List Int}:OkW ws S R→OkW (4::ws) S (r::R)
def wd (done:List (Int×List Fld)):Int:=(done.getLast?.map Prod.fst).getD 0
theorem qj5 (done:List (Int×List Fld)) (x:Int×List Fld):wd (done++[x])=x.1:=by simp [wd]
theorem zan {ws:List Int} {S:List (Int×List Fld)} {R:List (List Fld)} (h:OkW ws S R):∀ (l:q9) (done:List (Int×List Fld)) (k:Nat) (ids:List Int),GN l→stzF l.ents=done++S→(∀ r∈R,zv r = .no) →
  (∃ j,(wc k (zt ws S R (wd done) l.next) l ids).1 = .at' j 11)∨((wc k (zt ws S R (wd done) l.next) l ids).1 = .no∧(stzF (wc k (zt ws S R (wd done) l.next) l ids).2.1.ents).map Prod.snd=done.map Prod.snd++R):=by
 induction h with
 |nil=>
  intro l done k ids hg hs hc;refine .inr ⟨rfl,?_⟩
  show (stzF l.ents).map Prod.snd=_
  rw [hs]
  simp
 | @keep s S R ws h ih=>
  intro l done k ids hg hs hc
  have e:zt (1::ws) (s::S) (s.2::R) (wd done) l.next=zt ws S R (wd (done++[s])) l.next:=by
   rw [qj5];simp [zt]
  rw [e];have:=ih l (done++[s]) k ids hg (by simpa using hs) fun r hr=>hc r (by simp [hr])
  simpa using this
 | @change s r S R ws h ih=>
  intro l done k ids hg hs hc;obtain⟨h1,h2,h3⟩:=zdu (fs:=r) hg hs (hc r (by simp))
  have e:zt (2::ws) (s::S) (r::R) (wd done) l.next=⟨1,s.1,r⟩::zt ws S R (wd (done++[(s.1,r)])) (xg l s.1 r).2.next:=by
   rw [qj5,h3];simp [zt]
  have ho:oneF l ⟨1,s.1,r⟩=(0,xg l s.1 r):=by simp [oneF]
  rw [e,wc,ho];simp only;rw [if_pos h1];have:=ih (xg l s.1 r).2 (done++[(s.1,r)]) (k+1) (if (0:Int)<0 then ids++[0] else ids) (zdq hg _ _) (by simpa using h2) fun r hr=>hc r (by simp [hr])
  simpa using this
 | @drop s S R ws h ih=>
  intro l done k ids hg hs hc;obtain⟨h1,h2,h3⟩:=zfl hg hs
  have e:zt (3::ws) (s::S) R (wd done) l.next=⟨2,s.1,[]⟩::zt ws S R (wd done) (delF l s.1).2.next:=by
   rw [h3];simp [zt]
  have ho:oneF l ⟨2,s.1,[]⟩=(0,delF l s.1):=by simp [oneF]
  rw [e,wc,ho];simp only;rw [if_pos h1];have:=ih (delF l s.1).2 done (k+1) (if (0:Int)<0 then ids++[0] else ids) (zfh hg _) h2 hc
  simpa using this
 | @add r S R ws h ih=>
  intro l done k ids hg hs hc;have ho:oneF l ⟨3,wd done,r⟩=insF l (wd done) r:=by simp [oneF]
  have e0:zt (4::ws) S (r::R) (wd done) l.next=⟨3,wd done,r⟩::zt ws S R l.next (l.next+1):=by simp [zt]
  rw [e0,wc,ho];rcases zf3 (fs:=r) hg hs rfl (hc r (by simp)) with⟨_,h1⟩ | ⟨h1,h2,h3,h4⟩
  ·have hi:(insF l (wd done) r).2.1 = .num 11:=h1
   rw [hi,if_neg (by simp)];exact .inl ⟨k,rfl⟩
  ·have h1:(insF l (wd done) r).2.1 = .no:=h1
   have h2:stzF (insF l (wd done) r).2.2.ents=done++(l.next,r)::S:=h2;have h3:(insF l (wd done) r).2.2.next=l.next+1:=h3;rw [h1,if_pos rfl];have e:zt ws S R l.next (l.next+1)=zt ws S R (wd (done++[(l.next,r)])) (insF l (wd done) r).2.2.next:=by rw [qj5,h3]
   rw [e];have:=ih (insF l (wd done) r).2.2 (done++[(l.next,r)]) (k+1) (if 0<(insF l (wd done) r).1 then ids++[(insF l (wd done) r).1] else ids) (zfz hg _ _) (by simpa using h2) fun r hr=>hc r (by simp [hr])
   simpa using this
theorem qok {ws t:List Int} {S S2:List (Int×List Fld)} {R R2:List (List Fld)} (h:OkW ws S R) (h2:OkW t S2 R2):OkW (ws++t) (S++S2) (R++R2):=by
 induction h with
 |nil=>exact h2
 |keep _ ih=>exact .keep ih
 |change _ ih=>exact .change ih
 |drop _ ih=>exact .drop ih
 |add _ ih=>exact .add ih
theorem qip (S:List (Int×List Fld)) (R:List (List Fld)):∀ (n i j:Nat),i≤S.length→j≤R.length→i+j≤n→OkW (wayB (S.map Prod.snd) R n i j).reverse (S.take i) (R.take j)
 | 0,i,j,hi,hj,h=>by
  obtain⟨rfl,rfl⟩:i=0∧j=0:=by omega
  exact .nil
 |n+1,i,j,hi,hj,h=>by
  rw [wayB];by_cases h0:i=0∧j=0
  ·obtain⟨rfl,rfl⟩:=h0
   rw [if_pos ⟨rfl,rfl⟩];exact .nil
  ·rw [if_neg h0]
   have hl:=qnh (S.map Prod.snd) R i j;have hr:=qlj (S.map Prod.snd) R i j h0
   have htS:0<i→∃ s,S.take i=S.take (i - 1)++[s]∧S[i - 1]? = some s:=fun hp=>by
    have d6:i - 1<S.length:=by omega
    refine⟨S[i - 1],?_,List.getElem?_eq_getElem d6⟩;rw [List.take_append_getElem d6,show i - 1+1=i by omega]
   have htR:0<j→∃ r,R.take j=R.take (j - 1)++[r]∧R[j - 1]? = some r:=fun hp=>by
    have d6:j - 1<R.length:=by omega
    refine⟨R[j - 1],?_,List.getElem?_eq_getElem d6⟩;rw [List.take_append_getElem d6,show j - 1+1=j by omega]
   rw [List.reverse_cons];have hv:=qni (S.map Prod.snd) R i j;by_cases w4:xe (S.map Prod.snd) R i j=4
   ·have hj0:=hr (by omega)
    obtain⟨r,e1,_⟩:=htR hj0;rw [if_pos w4,if_neg (by omega),w4,e1];have:=qok (qip S R n i (j - 1) hi (by omega) (by omega)) (OkW.add (r:=r) .nil)
    simpa using this
   ·have hi0:=hl w4
    obtain⟨s,e1,e3⟩:=htS hi0;by_cases w3:xe (S.map Prod.snd) R i j=3
    ·rw [if_neg w4,if_pos w3,w3,e1]
     have:=qok (qip S R n (i - 1) j (by omega) hj (by omega)) (OkW.drop (s:=s) .nil)
     simpa using this
    ·have hj0:=hr w3
     obtain⟨r,e2,e4⟩:=htR hj0;rw [if_neg w4,if_neg w3,e1,e2];by_cases w2:xe (S.map Prod.snd) R i j=2
     ·rw [w2]
      exact qok (qip S R n (i - 1) (j - 1) (by omega) (by omega) (by omega)) (OkW.change (s:=s) (r:=r) .nil)
     ·have w1:xe (S.map Prod.snd) R i j=1:=by omega
      have hk:(S.map Prod.snd)[i - 1]? = R[j - 1]?:=by
       unfold xe at w1;split at w1
       ·rename_i hh;exact hh.2.2.1
       ·split at w1
        ·omega
        ·split at w1 <;> omega
      rw [List.getElem?_map,e3,e4] at hk;simp only [Option.map_some,Option.some.injEq] at hk;subst hk;rw [w1];exact qok (qip S R n (i - 1) (j - 1) (by omega) (by omega) (by omega)) (OkW.keep (s:=s) .nil)
theorem quz (S:List (Int×List Fld)) (R:List (List Fld)):OkW (wayF (S.map Prod.snd) R) S R:=by
 have:=qip S R (S.length+R.length) S.length R.length (Nat.le_refl _) (Nat.le_refl _) (Nat.le_refl _);rw [List.take_length,List.take_length] at this;unfold wayF;rw [List.length_map];exact this
theorem q5u {fs:List Fld} (h:GF fs) (b8:fs≠[]):zv fs = .no:=by
 unfold zv;rw [if_neg b8,if_neg (by have:=h.1;omega)];have:=qo9 0 fs [] fun x hx=>(qbg x).2 (h.2 x hx);rw [List.append_nil] at this;rw [this];rfl
theorem q2v {x:za} (h:yf x) (hk:x.kind=3):zv x.fields = .no:=by
 have hp:=q0r (its:=[x]) (by simpa using h) (by simp [cntI,hk]);have ha:y8 [x]=[x]:=by simp [y8,jz]
 have hm:=qka (ji (y8 [x])) x (by rw [hp,ha];simp);exact q5u hm.1 (hm.2.1 hk)
theorem za3 {l:q9} (h:GL l):∀ r∈(stzF l.ents).map Prod.snd,zv r = .no:=fun r hr=>by
 unfold stzF at hr;simp only [List.map_map,List.mem_map,List.mem_filter,decide_eq_true_eq] at hr;obtain⟨e,⟨he,h0⟩,rfl⟩:=hr;exact q2v (h.ok e he).1 ((h.ok e he).2.1 h0)
theorem qrv:∀ (b:List qp) (k:Nat),(∀ x∈b,gErr x = .no)→yo k b = .no
 | [],_,_=>rfl
 |x::r,k,h=>by
  rw [yo,if_pos (by rw [h x (by simp)];rfl),qrv r (k+1) fun y hy=>h y (by simp [hy])]
theorem qpr {ws:List Int} {S:List (Int×List Fld)} {R:List (List Fld)} (h:OkW ws S R):∀ (bh nx:Int),(∀ r∈R,zv r = .no)→∀ x∈zt ws S R bh nx,gErr x = .no:=by
 induction h with
 |nil=>intro bh nx hc x hx;simp [zt] at hx
 | @keep s S R ws h ih=>
  intro bh nx hc x hx;have e:zt (1::ws) (s::S) (s.2::R) bh nx=zt ws S R s.1 nx:=by simp [zt]
  rw [e] at hx
  exact ih _ _ (fun r hr=>hc r (by simp [hr])) x hx
 | @change s r S R ws h ih=>
  intro bh nx hc x hx;have e:zt (2::ws) (s::S) (r::R) bh nx=⟨1,s.1,r⟩::zt ws S R s.1 nx:=by simp [zt]
  rw [e] at hx;rcases List.mem_cons.1 hx with rfl|hx
  ·simpa [gErr] using hc r (by simp)
  ·exact ih _ _ (fun r hr=>hc r (by simp [hr])) x hx
 | @drop s S R ws h ih=>
  intro bh nx hc x hx;have e:zt (3::ws) (s::S) R bh nx=⟨2,s.1,[]⟩::zt ws S R bh nx:=by simp [zt]
  rw [e] at hx;rcases List.mem_cons.1 hx with rfl|hx
  ·simp [gErr]
  ·exact ih _ _ hc x hx
 | @add r S R ws h ih=>
  intro bh nx hc x hx;have e:zt (4::ws) S (r::R) bh nx=⟨3,bh,r⟩::zt ws S R nx (nx+1):=by simp [zt]
  rw [e] at hx;rcases List.mem_cons.1 hx with rfl|hx
  ·simpa [gErr] using hc r (by simp)
  ·exact ih _ _ (fun r hr=>hc r (by simp [hr])) x hx
def wo (l:q9) (R:List (List Fld)):List qp:=zt (wayF ((stzF l.ents).map Prod.snd) R) (stzF l.ents) R 0 l.next
def vp (l:q9) (b:List qp):ErrV×q9:=if b=[] then (.no,l) else ((doF l b).1,(doF l b).2.1)
theorem q8w {l:q9} {R:List (List Fld)} (h:GN l) (hc:∀ r∈R,zv r = .no) (lg:(wo l R).length≤40) :
  (∃ j,(vp l (wo l R)).1 = .at' j 11)∨((vp l (wo l R)).1 = .no∧(stzF (vp l (wo l R)).2.ents).map Prod.snd=R):=by
 have hw:=quz (stzF l.ents) R;have hs:=zan hw l [] 0 [] h rfl hc;have hg:=qpr hw 0 l.next hc;have hl:wd []=0:=rfl;rw [hl] at hs;unfold vp;by_cases hb:wo l R=[]
 ·rw [if_pos hb]
  unfold wo at hb;rw [hb] at hs;rcases hs with⟨j,hs⟩ | ⟨_,hs⟩
  ·simp [wc] at hs
  ·exact .inr ⟨rfl,by simpa [wc] using hs⟩
 ·rw [if_neg hb]
  have he:eErr (wo l R) = .no:=by
   have:=List.length_pos_iff.2 hb;unfold eErr;rw [if_neg (by omega)];exact qrv _ 0 hg
  unfold doF;rw [if_pos he]
  simpa [wo] using hs
def runT (text:qc):RunV:=(zjt (zei text).2.base (zei text).2.batches).2
end Go.Pl
namespace Go.Pl
open Go Go.Proofs Go.Av Go.Proofs.YtapblfabkbdgcaaGreatDoor
def dupS (key:qc) (pre:List (Int×List Fld)) (x:Int×List Fld):Bool:=(qn2 key x.2).any fun v=>pre.any fun y=>decide (v∈qn2 key y.2)
def zbv (r:qck) (pre:List (Int×List Fld)) (x:Int×List Fld):Prop:=x.2.any (badR r)=true∨(r.kind=1∧cntR r x.2=0)∨(r.kind=2∧1<cntR r x.2)∨(r.kind=7∧dupS r.key pre x=true)
instance (r:qck) (pre:List (Int×List Fld)) (x:Int×List Fld):Decidable (zbv r pre x):=inferInstanceAs (Decidable (_∨(_∧_)∨(_∧_)∨(_∧_)))
end Go.Pl
namespace Go.Proofs.YtapblfabkbdgcaaGreatDoor
open Go Go.Av Go.RowKit Go.Proofs Go.Pl
theorem q2o (b:List qp) (st:List AObj) (hl:b.length<1000000) (hf:∀ x∈b,x.fields.length<1000000):qo E 32 [ku b,ku b] st fun r st'=>r=Bv true∧st'=st:=by
 refine zw [.a (ku b),.a (ku b)] (q8 _) Tryz.func32 rfl rfl (fun _=>rfl) rfl fun S0=>?_;have hmi:(b.map z6).length=b.length:=by simp
 apply qf [];repeat' (first|apply And.intro|(intro h;try exact cDd)|exact cSd|apply qd []|refine exr ?_|refine qk ?_)
 refine j5 (X:=Nat) (fun k=>⟨[(0,.a (ku b)),(1,.a (ku b)),(12,.i (b.map z6).length),(13,.i k)],[],0⟩) (fun k=>k≤b.length) (fun k=>b.length - k) 0 (by omega) ?_ ?_
 ·skip
  repeat' (first|apply And.intro|(intro h;try exact cDd)|exact cSd|apply qd []|refine exr ?_|refine qk ?_)
 ·rintro k hk
  by_cases i7:k<b.length
  ·obtain⟨y,hy⟩:∃ y,b[k]? = some y:=⟨_,List.getElem?_eq_getElem i7⟩
   have c9:=qm4 hy;have hxf:=hf y (List.mem_of_getElem? hy);have sm:=fun st=>q89 y.fields y.fields st (by omega);rw [decide_eq_true rfl] at sm;apply qf [];repeat' (first|apply And.intro|(intro h;try exact cDd)|(refine Exists.intro (k) ⟨by omega,_,c9,?_⟩)|exact⟨Tryz.call58⟩|refine cpe sm ?_|(refine Exists.intro (k+1) ⟨by omega,by omega,?_⟩)|exact cSd|apply qd []|refine exr ?_|refine qk ?_)
  ·apply qf []
   repeat' (first|apply And.intro|(intro h;try exact cDd)|exact cSd|apply qd []|refine exr ?_|refine qk ?_)
end Go.Proofs.YtapblfabkbdgcaaGreatDoor
