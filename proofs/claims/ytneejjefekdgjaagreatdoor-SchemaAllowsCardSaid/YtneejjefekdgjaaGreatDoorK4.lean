/- Contracts and plain facts that the closing text leans on (part 4). No condition of their own beyond those that each states. -/
import Derived.Test.YtneejjefekdgjaaGreatDoorK3
import Derived.Lib.AppendZerosOnto
import Derived.Lib.Overlaps
set_option maxRecDepth 100000
set_option linter.unusedVariables false
set_option linter.unusedSimpArgs false
namespace Go.Proofs.YtneejjefekdgjaaGreatDoor
open Go Go.Av Go.RowKit Go.Proofs Go.Pl
abbrev Ss (xs:List qe):AV:=.sl 1 (xs.map fun x=>Sv x) none
theorem qx8 (l m:List UInt8) (st:List AObj):qp E 74 [Sv l,Sv m] st fun r st'=>r=Sv (Lib.trimPrefix l m)∧st'=st:=
 qck (vals:= #[.string ⟨l.toArray⟩,.string ⟨m.toArray⟩]) rfl fun _ _ w _ _=>(Tryz.strings_TrimPrefix ⟨l.toArray⟩ ⟨m.toArray⟩ w).mono fun _ _ ⟨h1,h2⟩=>⟨h1,qi0 h2⟩
theorem q0k (l:List UInt8) (c:UInt8) (st:List AObj):qp E 74 [Sv l,Sv [c]] st fun r st'=>r=Sv (yi c l)∧st'=st:=by
 rw [← qse]
 exact qx8 _ _ _
theorem q2m {B0:Nat} {w0:World} {G:Gh} {st:List AObj} {w:World} (hA:zl B0 w0 G st w) {xs:List qe} {tip:Option Nat} {v:Value} (h:Rel G (.sl 1 (xs.map fun x=>Sv x) tip) v) :
  (xs=[]∧∃ a c,v = .slice a 0 c)∨∃ b off cap,v = .slice (some ⟨b,off,none⟩) xs.length cap∧b<w.heap.size∧xs.length≤cap∧∀ (j:Nat) (x:qe),xs[j]? = some x→w.cell? ⟨b,off+j,none⟩=some (.string ⟨x.toArray⟩):=by
 generalize hq:xs.map (fun x=>Sv x)=q at h
 cases h with
 |sl0 sz tip base cap ht=>exact .inl ⟨by simpa using hq,base,cap,rfl⟩
 |sl _ _ _ b off cap pub hp hw hlen hr ht hcap=>
  subst hq
  obtain⟨c,T,fz,hc,hcc⟩:=hA.pub b pub hp
  refine .inr ⟨b,off,cap,by simp,hA.pub_lt hp,by simpa using hcap,fun j x hx=>?_⟩
  have hfl:flat (xs.map fun x=>Sv x)=xs.map fun x=>Sv x:=by
   clear hx hr hlen hw ht hcap
   induction xs with
   |nil=>rfl
   |cons a xs ih=>rw [List.map_cons,qb8,ih];rfl
  have hj:=lt_of_getElem? hx
  rw [hfl] at hlen
  simp only [List.length_map] at hlen
  have hy:pub[off+j]? = some (pub[off+j]'(by omega)):=List.getElem?_eq_getElem (by omega)
  have hrj:=hr j (Sv x) _ (by rw [hfl,List.getElem?_map,hx];rfl) hy
  generalize hz:pub[off+j]'(by omega)=z at hrj hy
  generalize hSx:Sv x=sx at hrj
  cases hrj <;> simp_all
  subst_vars
  simp [World.cell?,hc,hcc _ _ hy]
theorem q4e (xs:List qe) (tip:Option Nat) (sep:qe) (st:List AObj) (hN:xs.length≤140737488355328) (hl:(Lib.join xs sep).length≤140737488355328):qp E 127 [.sl 1 (xs.map fun x=>Sv x) tip,Sv sep] st fun r st'=>r=Sv (Lib.join xs sep)∧st'=st:=by
 refine⟨fun B0 w0 G vs w hL hA hR=>?_⟩
 have hs:vs.size=2:=by have:=hR.1;simpa using this.symm
 have e0:vs[0]? = some vs[0]:=by simp [hs]
 have e1:vs[1]? = some vs[1]:=by simp [hs]
 have h0:=hR.2 0 _ _ rfl e0
 have h1:=hR.2 1 _ _ rfl e1
 have hv1:vs[1] = .string ⟨sep.toArray⟩:=by generalize vs[1]=y at h1;cases h1;rfl
 have hvs:vs = #[vs[0],.string ⟨sep.toArray⟩]:=by
  apply Array.ext (by simp [hs])
  intro i g1 g2
  match i with
  | 0=>rfl
  | 1=>exact hv1
  |i+2=>simp [hs] at g1;omega
 rw [hvs]
 rcases q2m hA h0 with⟨hx,a,c,hv⟩ | ⟨b,off,cap,hv,hb,hcap,hcell⟩
 ·rw [hv]
  subst hx
  refine (Tryz.strings_Join_none a c ⟨sep.toArray⟩ w).mono ?_
  rintro e w' ⟨rfl,rfl⟩
  exact⟨_,G,Sv [],st,rfl,.refl G,hA,.v _,rfl,rfl⟩
 ·rw [hv]
  have hm:(xs.map fun l:qe=>(⟨l.toArray⟩:ByteArray)).map (·.data.toList)=xs:=by simp [List.map_map,Function.comp_def]
  have hc:=Tryz.strings_Join b off cap (xs.map fun l=>⟨l.toArray⟩) ⟨sep.toArray⟩ w (fun j x hx=>by
   rw [List.getElem?_map] at hx
   cases hq:xs[j]? with
   |none=>rw [hq] at hx;simp at hx
   |some y=>rw [hq] at hx;simp at hx;subst hx;exact hcell j y hq) hb (by simpa using hN) (by simpa using hcap) (by rw [hm];simpa using hl)
  rw [hm] at hc
  simp only [List.length_map] at hc
  refine hc.mono ?_
  rintro e w' ⟨rfl,hbw⟩
  exact⟨_,G,Sv _,st,rfl,.refl G,hA.fresh hbw,.v _,rfl,rfl⟩
def Weak (x r:AV):Prop:=∀ (G:Gh) (v:Value),Rel G x v→Rel G r v
theorem qtv (x:AV):Weak x x:=fun _ _ h=>h
theorem qkw (sz:Nat) (xs:List AV) (tip:Option Nat):Weak (.sl sz xs tip) (.sl sz xs none):=fun _ _ h=>qit h
theorem q2u (sz:Nat):Weak jw (.sl sz [] none):=fun _ _ h=>qbq h
theorem qyc {x y x' y':AV} (h1:Weak x x') (h2:Weak y y'):Weak (.tu [x,y]) (.tu [x',y']):=fun G v h=>by
 cases h with
 |tu _ vs hl hr=>
  refine .tu _ vs hl fun i a b ha hb=>?_
  match i with
  | 0=>simp at ha;subst ha;exact h1 G b (hr 0 x b rfl hb)
  | 1=>simp at ha;subst ha;exact h2 G b (hr 1 y b rfl hb)
  |i+2=>simp at ha
theorem q0y {fn:Func} {s:AS} {t u:Tmp} {x y x' y':AV} (hr:fn.results = #[.tmp t,.tmp u]) (hx:qj fn.ntmps s (.tmp t)=x) (hy:qj fn.ntmps s (.tmp u)=y) (h1:Weak x x') (h2:Weak y y'):ARes E fn s (.tu [x',y']):=
 qbn (qav hr) (by rw [hx,hy];exact qyc h1 h2)
def errN (n:Int):AV:=if n=0 then .v .nilIface else .ifc 62 (Iv n)
theorem qii (n:Int):Pure (errN n):=by
 unfold errN
 split
 ·exact qy _
 ·exact qf2 (qy _)
theorem qjf {n:Int} (h:n≠0):errN n = .ifc 62 (Iv n):=if_neg h
theorem qng (f:FldV) (st:List AObj) (hl:f.1.length<4294967281):qp E 273 [fldA f] st fun r st'=>r=errN (ww f)∧st'=st:=by
 refine zi (qii _) (qt Tryz.func273 rfl (Nat.le_of_ble_eq_true rfl) ?_)
 repeat' (first|apply qr|apply ze|apply ql|apply qk|apply qm|(apply qw;(iterate 3 exact rfl))|(apply jv;exact rfl)|(apply qc;exact rfl;apply cd_n <;> intro h)|(apply qc;exact rfl;apply cd_d <;> intro h)|(apply zx;(iterate 3 exact rfl))|(apply q9;exact rfl;exact rfl)|(apply vl;(iterate 4 exact rfl))|(apply q5;(iterate 3 exact rfl))|(apply zn;(iterate 5 exact rfl))|apply q8|apply zb|(apply qx;exact Tryz.call99;exact q1t _ _ hl))
 all_goals refine qq rfl (zf rfl) ⟨(?_:_=_),_,rfl⟩
 ·have e:ww f=5:=if_pos (by simp_all)
  rw [e];rfl
 ·have e:ww f=6:=(if_neg (by simp_all)).trans (if_pos (by omega))
  rw [e];rfl
 ·have e:ww f=0:=(if_neg (by simp_all)).trans (if_neg (by omega))
  rw [e];rfl
theorem qhs (f:FldV) (st:List AObj) (hl:f.1.length<4294967281) (h:ww f=0):qp E 273 [fldA f] st fun r st'=>r = .v .nilIface∧st'=st:=by
 have:=qng f st hl
 rw [h] at this
 exact this
theorem qht (f:FldV) (st:List AObj) (hl:f.1.length<4294967281) (h:ww f≠0):qp E 273 [fldA f] st fun r st'=>r = .ifc 62 (Iv (ww f))∧st'=st:=by
 have:=qng f st hl
 rw [qjf h] at this
 exact this
theorem q5t (s:List UInt8) (st:List AObj) (hl:s.length<4294967281):qp E 294 [Sv s] st fun r st'=>r=Sv (xv s)∧st'=st:=by
 refine zi (qy _) (qt Tryz.func294 rfl (Nat.le_of_ble_eq_true rfl) ?_)
 have hb:Lib.trimS s [32,9]=[]↔qcd s:=by rw [qtu];simp [yo,qcd]
 repeat' (first|apply qr|apply ql|apply qk|apply qo|apply qm|(apply jm;(iterate 3 exact rfl))|(apply qv;(iterate 4 exact rfl))|(apply kg;exact cAo)|(apply j6;exact cAo)|(apply jo <;> intro h)|(apply qf;exact rfl;apply xq;exact cAo)|(apply qf;exact rfl;apply x3;exact cAo)|(apply qc;exact rfl;apply cd_t;exact cRa)|(apply qc;exact rfl;apply cd_d <;> intro h)|(apply jf;exact rfl;exact rfl;exact cOs)|apply q8|apply zb|(apply qx;exact Tryz.call209;exact zbe _ _ _ (by omega) rfl rfl)|(apply qx;exact Tryz.call164;exact qhw _ _ _))
 all_goals refine qq rfl (zf rfl) ⟨congrArg (fun l:qe=>Sv l) (?_:_=xv s),_,rfl⟩
 all_goals unfold xv
 all_goals simp_all
theorem qmv (xs:List qe):Pure (Ss xs):=ql3 xs
theorem q2j (l p:qe) (r:List qe) (st:List AObj) (hl:l.length<4294967281) (h:qu l=p::r):qp E 285 [Sv l,Sv [10]] st fun x st'=>x = .sl 1 (Sv p::r.map fun x=>Sv x) none∧st'=st:=by
 have:=qtp l st hl
 rw [h] at this
 exact this
def qhx (f:FldV):AV:=.tu [Ss (if ww f=0 then zy f else []),errN (ww f)]
theorem qy3 (f:FldV):Pure (qhx f):=qd9 fun x hx=>by
 simp only [List.mem_cons,List.not_mem_nil,or_false] at hx
 rcases hx with rfl|rfl
 ·exact qmv _
 ·exact qii _
set_option maxHeartbeats 2000000 in
theorem qnh (f:FldV) (st:List AObj) (hl:f.1.length<4294967281) (hv:f.2.length<1000000):qp E 237 [fldA f] st fun r st'=>r=qhx f∧st'=st:=by
 refine zi (qy3 _) (qt Tryz.func237 rfl (Nat.le_of_ble_eq_true rfl) ?_)
 by_cases hc:ww f=0
 ·obtain⟨p,r,hp⟩:∃ p r,qu f.2=p::r:=⟨_,_,qke f.2⟩
  have hpl:p.length≤f.2.length:=qek f.2 p (by rw [hp];simp)
  have hrl:∀ x∈r,x.length≤f.2.length:=fun x hx=>qek f.2 x (by rw [hp];simp [hx])
  have hrn:r.length≤f.2.length:=by have:=qbh _ f.2 (Nat.le_refl _);rw [hp] at this;simpa using this
  repeat' (first|(apply qbt;(iterate 6 exact rfl))|(apply qsk;(iterate 5 exact rfl);kernel_rfl)|apply qr|apply ze|apply ql|apply qk|apply qo|apply qm|(apply jm;(iterate 3 exact rfl))|(apply qc;exact rfl;apply cd_f;exact cRa)|(apply qc;exact rfl;apply cd_d <;> intro h)|(apply zu;(iterate 4 exact rfl))|(apply jf;exact rfl;exact rfl;exact cOs)|(apply jd;exact rfl;exact rfl)|(apply vl;(iterate 4 exact rfl))|(apply q5;(iterate 3 exact rfl))|(apply zk;(iterate 3 exact rfl))|(apply zn;(iterate 5 exact rfl))|(apply zm;(iterate 11 exact rfl))|(apply je;(iterate 4 exact rfl);(first|assumption|omega|exact Nat.succ_le_succ (Nat.zero_le _)|(simp;omega));exact rfl)|apply yb|(apply vp;exact rfl;exact rfl;exact cOs)|(apply kp;(iterate 3 exact rfl))|(apply j9;(iterate 5 exact rfl))|apply w9|apply q8|(apply qx;exact Tryz.call273;exact qhs _ _ hl hc)|(apply qx;exact Tryz.call285;exact q2j _ _ _ _ (by omega) hp)|(apply x9 (n:=0);(iterate 6 exact rfl))|(apply qvi (n:=0);(iterate 6 exact rfl))|(apply qic (n:=0);(iterate 5 exact rfl);omega))
  all_goals refine q3i 6 (o:=st.length+1) (sz:=1) (len:=1) (cap:=1) (xs:=[Sv (v8 f.1 p)]) (T':=9) rfl (qbe rfl) rfl rfl (by omega) (Nat.le_refl _) (by decide) (by simp [AV.cells]) ?_ ?_
  ·exact congrArg (fun l:qe=>[Sv l]) (by unfold v8;rw [if_neg h]:v8 f.1 p=f.1++[58]++([32]++p))
  rotate_left
  ·exact congrArg (fun l:qe=>[Sv l]) (by unfold v8;rw [if_pos (Classical.not_not.1 h),List.append_nil]:v8 f.1 p=f.1++[58])
  all_goals
   have hre:qhx f = .tu [Ss (v8 f.1 p::r.map fun s=>[32]++xv s),.v .nilIface]:=by
    unfold qhx zy
    rw [if_pos hc,hc,hp]
    rfl
   rw [hre]
   have hst:∀ s,(xv s).length≤s.length+1:=qtq
   refine qe3 r (fun pre s=>StE [(6,.sl 1 (Sv (v8 f.1 p)::pre.map (fun s=>Sv ([32]++xv s))) (some (st.length+1))),(35,.sl 1 (r.map fun x=>Sv x) none),(36,Iv r.length),(37,Iv pre.length)] st [.cells 0 111 [Sv f.1,Sv f.2],.tip (pre.length+1) 1 9] s) (qhj ⟨rfl,rfl,congrArg (fun n:Nat=>Iv (n:Int)) (List.length_map ..),rfl,trivial⟩ (qr6 st _ 1 _)) ?_ ?_
   ·rintro _ ⟨t,ext,rfl⟩
    repeat' (first|apply qr|apply ql|apply qk|apply qo|apply qm|(apply qw;(iterate 3 exact rfl))|(apply qc;exact rfl;apply wq;exact cAo)|apply jq|apply zb)
    refine qq rfl (q0y rfl rfl rfl (qkw _ _ _) (qtv _)) ⟨?_,qe5 _ _ _ _⟩
    simp only [Ss,List.map_cons,List.map_map]
    rfl
   ·rintro pre a rest _ hr ⟨t,ext,rfl⟩
    have hlen:r.length=pre.length+(rest.length+1):=by rw [hr];simp
    have hget:(r.map fun x=>Sv x)[pre.length]? = some (Sv a):=by rw [hr];simp
    have ha:a.length≤f.2.length:=hrl a (by rw [hr];simp)
    have hsa:=hst a
    repeat' (first|apply qr|apply ze|apply ql|apply qk|apply qo|apply qm|(apply qw;(iterate 3 exact rfl))|(apply qc;exact rfl;apply wa;exact cAo)|(apply jf;exact rfl;exact rfl;exact cOs)|(apply zp;exact rfl;exact rfl;exact qn (by omega) (by omega))|(apply zk;(iterate 3 exact rfl))|(apply zr;(iterate 9 exact rfl))|apply q8|(apply qx;exact Tryz.call294;exact q5t _ _ (by omega))|(apply x9 (n:=pre.length);(iterate 5 exact rfl);exact hget)|(apply qdc (n:=pre.length+1) (m:=1) (sz:=1) (bytes:=16);(iterate 4 exact rfl);simp;exact rfl;exact rfl;exact⟨⟨_,_,rfl,rfl,rfl,rfl,rfl⟩⟩;exact rfl;exact rfl;(unfold maxLen;omega);omega;exact rfl))
    refine qdv ⟨?_,rfl,rfl,?_,trivial⟩ ?_
    ·exact q8i _ (fun s=>Sv ([32]++xv s)) pre a _ rfl
    ·exact qrp pre a
    ·rw [qdu pre a];rfl
 ·skip
  repeat' (first|apply qr|apply ql|apply qk|apply qo|apply qm|(apply qc;exact rfl;apply cd_t;exact cRa)|(apply jc;exact rfl;exact rfl)|(apply vl;(iterate 4 exact rfl))|(apply zn;(iterate 5 exact rfl))|apply zb|(apply qx;exact Tryz.call273;exact qht _ _ hl hc))
  refine qq rfl (qbn (r':=.tu [Ss [],.ifc 62 (Iv (ww f))]) (qav rfl) (qyc (q2u _) (qtv _))) ⟨?_,_,rfl⟩
  unfold qhx
  rw [if_neg hc,qjf hc]
theorem qm6 {rd:Option Nat} {N:Nat} {ops:Array Oper} {K:AS→Prop} {s:AS} {rest:List Oper} {d:Option Tmp} {T:TypeId} {p:String} {af:Array Edge} {st loc:List AObj} (hst:s.st=st++loc)
  (h:AOps E rd N ops rest K (AS.put ⟨s.t,st++(loc++[bldO 0 (.v (.pointer none)) [] (st.length+(loc.length+1)),.tip 0 1 5]),s.df⟩ d (.bx (st.length+loc.length) 0 0))):AOps E rd N ops (⟨d,.alloc 246,T,p,af,none⟩::rest) K s:=by
 refine jj hst rfl ?_
 have e:∀ (t:Nat→AV) (st':List AObj) (df:List Nat) (x:AV),(AS.put ⟨t,st',df⟩ d x).st=st':=fun t st' df x=>by cases d <;> rfl
 have e2:∀ (t:Nat→AV) (st' st2:List AObj) (df:List Nat) (x:AV),(⟨(AS.put ⟨t,st',df⟩ d x).t,st2,(AS.put ⟨t,st',df⟩ d x).df⟩:AS)=AS.put ⟨t,st2,df⟩ d x:=fun t st' st2 df x=>by cases d <;> rfl
 refine qvh (o:=st.length+loc.length) (j:=1) (sz:=1) (T':=5) (T1:=246) (ver:=0) (cs:=[.v (.pointer none),jw]) ?_ rfl ?_
 ·rw [e,← List.append_assoc,List.getElem?_append_right (by simp)]
  simp
  rfl
 ·rw [e,e2]
  have hx:(st++(loc++[AObj.cells 0 246 [.v (.pointer none),jw]])).set (st.length+loc.length) (.cells 0 246 ([AV.v (.pointer none),jw].set 1 (.sl 1 [] (some (st++(loc++[AObj.cells 0 246 [.v (.pointer none),jw]])).length))))++[AObj.tip 0 1 5]
    = st++(loc++[bldO 0 (.v (.pointer none)) [] (st.length+(loc.length+1)),.tip 0 1 5]):=by
   rw [qr6,List.append_assoc,List.set_append_right _ _ (Nat.le_refl _)]
   simp
  have h':=h
  rw [← hx] at h'
  exact h'
theorem qpj (st loc ext new loc':List AObj) (k kt ver:Nat) (q:AV) (l m:List UInt8) (hk:loc[k]? = some (bldO ver q l (st.length+kt))) (hkt:loc[kt]? = some (.tip l.length 1 5)) (hq:q = .v (.pointer none)∨q = .bx (st.length+k) ver 0)
  (hlen:l.length+m.length≤140737488355328) (hl:loc'=(loc.set k (bldO ver (.bx (st.length+k) ver 0) (l++m) (st.length+kt))).set kt (.tip (l++m).length 1 5)) :
  qp E 168 [.bx (st.length+k) ver 0,Sv m] (((st++loc)++ext)++new) fun r st'=>r = .tu [Iv m.length,.v .nilIface]∧st'=((st++loc')++ext)++new:=by
 refine (q6k (st.length+k) ver (st.length+kt) q l m _ (qcm hk) (qcm hkt) hq hlen).mono fun r st' ⟨h1,h2⟩=>⟨h1,?_⟩
 have hk1:=lt_of_getElem? hk
 have hk2:=lt_of_getElem? hkt
 rw [h2,qfc _ hk1,qfc _ (by simpa using hk2),hl,List.length_append]
theorem qm9 (st loc ext new loc':List AObj) (k kt ver:Nat) (q:AV) (l:List UInt8) (hk:loc[k]? = some (bldO ver q l (st.length+kt))) (hkt:loc[kt]? = some (.tip l.length 1 5)) (hl:loc'=loc.set kt .dead) :
  qp E 171 [.bx (st.length+k) ver 0] (((st++loc)++ext)++new) fun r st'=>r=Sv l∧st'=((st++loc')++ext)++new:=by
 refine (q3k (st.length+k) ver (st.length+kt) q l _ (qcm hk) (qcm hkt)).mono fun r st' ⟨h1,h2⟩=>⟨h1,?_⟩
 rw [h2,qfc _ (lt_of_getElem? hkt),hl]
theorem qov:∀ (r:List qe),(zv (r.map fun s=>[32]++xv s)).length≤3 * (r.flatMap fun s=>[10]++s).length
 | []=>by simp [zv]
 |a::r=>by
  have ih:=qov r
  have:=qtq a
  simp only [zv,List.map_cons,List.flatMap_cons,List.length_append,List.length_cons,List.length_nil] at ih ⊢
  omega
theorem qa3 (a b:List qe):zv (a++b)=zv a++zv b:=by simp [zv]
theorem qgp (s:qe):zv [s]=s++[10]:=by simp [zv]
theorem qi6:∀ (l:List qe),l.length≤(zv l).length
 | []=>by simp
 |a::r=>by
  have ih:=qi6 r
  simp only [zv,List.flatMap_cons,List.length_append,List.length_cons,List.length_nil] at ih ⊢
  omega
theorem qs3 (a b:List Fld):jy (a++b)=jy a++jy b:=by simp [jy]
theorem qs5 (f:Fld):jy [f]=zv (zy f):=by simp [jy]
theorem qqc {f:Fld} (h:wt f):(zv (zy f)).length≤5000:=by
 obtain⟨hk,hv⟩:=h
 have h1:=qov (qu f.2).tail
 have h2:=congrArg List.length (qg6 _ f.2 (Nat.le_refl _))
 have h3:(v8 f.1 ((qu f.2).headD [])).length≤32+2+((qu f.2).headD []).length:=by
  have:=hk.2.1
  unfold v8
  split <;> simp <;> omega
 have e:zy f=[v8 f.1 ((qu f.2).headD [])]++(qu f.2).tail.map fun s=>[32]++xv s:=rfl
 rw [e,qa3,qgp]
 simp only [List.length_append,List.length_cons,List.length_nil] at h2 ⊢
 omega
theorem qs4:∀ (xs:List Fld),(∀ f∈xs,wt f)→(jy xs).length≤5000 * xs.length
 | [],_=>by simp [jy]
 |f::r,h=>by
  have ih:=qs4 r fun x hx=>h x (by simp [hx])
  have h1:=qqc (h f (by simp))
  have e:jy (f::r)=zv (zy f)++jy r:=by simp [jy]
  rw [e,List.length_append,List.length_cons]
  omega
def errF:List Fld→Int
 | []=>0
 |f::r=>if ww f≠0 then ww f else errF r
theorem qli:∀ (xs:List Fld),errF xs=0↔∀ f∈xs,wt f
 | []=>by simp [errF]
 |f::r=>by
  have ih:=qli r
  unfold errF
  by_cases h:ww f≠0
  ·rw [if_pos h]
   have hg:¬ wt f:=fun hg=>h ((qc7 f).2 hg)
   simp [h,hg]
  ·have hg:=(qc7 f).1 (Classical.not_not.1 h)
   rw [if_neg h,ih]
   simp [hg]
theorem qzy:∀ {pre:List Fld} {f:Fld} {r:List Fld},(∀ x∈pre,wt x)→ww f≠0→errF (pre++f::r)=ww f
 | [],f,r,_,h=>by simp [errF,h]
 |x::pre,f,r,hp,h=>by
  have:=(qc7 x).2 (hp x (by simp))
  simp only [List.cons_append,errF,this]
  rw [if_neg (by simp)]
  exact qzy (fun y hy=>hp y (by simp [hy])) h
theorem qwa (f:FldV) (st:List AObj) (hl:f.1.length<4294967281) (hv:f.2.length<1000000) (h:ww f=0):qp E 237 [fldA f] st fun r st'=>r = .tu [Ss (zy f),.v .nilIface]∧st'=st:=by
 have:=qnh f st hl hv
 unfold qhx at this
 rw [if_pos h,h] at this
 exact this
theorem qwb (f:FldV) (st:List AObj) (hl:f.1.length<4294967281) (hv:f.2.length<1000000) (h:ww f≠0):qp E 237 [fldA f] st fun r st'=>r = .tu [Ss [],.ifc 62 (Iv (ww f))]∧st'=st:=by
 have:=qnh f st hl hv
 unfold qhx at this
 rw [if_neg h,qjf h] at this
 exact this
def qp1 (xs:List Fld):AV:=.tu [Sv (if errF xs=0 then jy xs else []),errN (errF xs)]
theorem q1m (xs:List Fld):Pure (qp1 xs):=qd9 fun x hx=>by
 simp only [List.mem_cons,List.not_mem_nil,or_false] at hx
 rcases hx with rfl|rfl
 ·exact qy _
 ·exact qii _
structure quf (xs:List FldV):Prop where
 len:xs.length<1000000
 val:∀ f∈xs,f.1.length<4294967281∧f.2.length<1000000
set_option maxHeartbeats 2000000 in
theorem zb5 (xs:List FldV) (st:List AObj) (hx:quf xs):qp E 167 [kc xs] st fun r st'=>r=qp1 xs∧st'=st:=by
 refine zi (q1m _) (qt Tryz.func167 rfl (Nat.le_of_ble_eq_true rfl) ?_)
 have hxl:=hx.len
 repeat' (first|(apply qm6;exact rfl)|apply qr|apply ze|apply ql|apply qk|apply qo|apply qm|(apply zu;(iterate 4 exact rfl)))
 refine qe3 xs (fun pre s=>(∀ f∈pre,wt f)∧∃ q,(q = .v (.pointer none)∨q = .bx (st.length+0) 0 0)∧StE [(4,.bx (st.length+0) 0 0),(11,kc xs),(12,Iv xs.length),(13,Iv pre.length)] st [bldO 0 q (jy pre) (st.length+1),.tip (jy pre).length 1 5] s) ⟨by simp,_,.inl rfl,qhj ⟨rfl,rfl,congrArg (fun n:Nat=>Iv (n:Int)) (List.length_map ..),rfl,trivial⟩ rfl⟩ ?_ ?_
 ·rintro _ ⟨hg,q,hq,t,ext,rfl⟩
  repeat' (first|apply qr|apply ql|apply qk|apply qm|(apply qw;(iterate 3 exact rfl))|(apply qc;exact rfl;apply wq;exact cAo)|apply jq|apply zb|(refine qx Tryz.call171 (qm9 st _ _ _ _ 0 1 0 _ _ rfl rfl rfl) ?_))
  refine qq rfl (qav rfl) ⟨?_,qe5 _ _ _ _⟩
  unfold qp1
  have h0:=(qli xs).2 hg
  rw [if_pos h0,h0]
  rfl
 ·rintro pre f rest _ hr ⟨hg,q,hq,t,ext,rfl⟩
  have hlen:xs.length=pre.length+(rest.length+1):=by rw [hr];simp
  have hget:(xs.map fldA)[pre.length]? = some (fldA f):=by rw [hr];simp
  obtain⟨hf1,hf2⟩:=hx.val f (by rw [hr];simp)
  by_cases hc:ww f=0
  ·have hgf:=(qc7 f).1 hc
   have hb1:=qs4 pre hg
   have hb2:=qqc hgf
   repeat' (first|apply qr|apply ze|apply ql|apply qk|apply qo|apply qm|(apply zj;exact rfl;exact rfl)|(apply qw;(iterate 3 exact rfl))|(apply qc;exact rfl;apply wa;exact cAo)|(apply qc;exact rfl;apply cd_f;exact cRa)|(apply zu;(iterate 4 exact rfl))|(apply jd;exact rfl;exact rfl)|(apply jj;exact rfl;exact rfl)|(apply zk;(iterate 3 exact rfl))|(apply zn;(iterate 5 exact rfl))|(apply zm;(iterate 11 exact rfl))|apply q8|(apply qx;exact Tryz.call237;exact qwa _ _ hf1 hf2 hc)|(apply x9 (n:=pre.length);(iterate 5 exact rfl);exact hget))
   refine qe3 (zy f) (fun lp s=>∃ q,(q = .v (.pointer none)∨q = .bx (st.length+0) 0 0)∧StE [(4,.bx (st.length+0) 0 0),(11,kc xs),(12,Iv xs.length),(13,Iv pre.length),(25,Ss (zy f)),(26,Iv (zy f).length),(27,Iv lp.length)] st [bldO 0 q (jy pre++zv lp) (st.length+1),.tip (jy pre++zv lp).length 1 5] s) ⟨_,hq,qdv ⟨rfl,rfl,rfl,rfl,rfl,congrArg (fun n:Nat=>Iv (n:Int)) (List.length_map ..),rfl,trivial⟩ (by simp [zv])⟩ ?_ ?_
   ·rintro _ ⟨q,hq,t,ext,rfl⟩
    repeat' (first|apply qr|apply ql|apply qk|apply qo|(apply qw;(iterate 3 exact rfl))|(apply qc;exact rfl;apply wq;exact cAo)|(apply zp;exact rfl;exact rfl;exact qn (by omega) (by omega))|apply jq)
    refine⟨fun x hx=>?_,q,hq,qdv ⟨rfl,rfl,rfl,?_,trivial⟩ ?_⟩
    ·rcases List.mem_append.1 hx with hx|hx
     ·exact hg x hx
     ·simp at hx;subst hx;exact hgf
    ·rw [qdu pre f];rfl
    ·rw [qs3,qs5]
   ·rintro lp a lr _ hlr ⟨q,hq,t,ext,rfl⟩
    have hlen2:(zy f).length=lp.length+(lr.length+1):=by rw [hlr];simp
    have hget2:((zy f).map fun x=>Sv x)[lp.length]? = some (Sv a):=by rw [hlr];simp
    have hb3:(zv lp).length+(a.length+1)≤5000:=by
     rw [hlr,qa3] at hb2
     have:a::lr=[a]++lr:=rfl
     rw [this,qa3,qgp] at hb2
     simp only [List.length_append,List.length_cons,List.length_nil] at hb2
     omega
    have hct:=qi6 lp
    repeat' (first|apply qr|apply ze|apply ql|apply qk|apply qo|apply qm|(apply qw;(iterate 3 exact rfl))|(apply qc;exact rfl;apply wa;exact cAo)|(apply jf;exact rfl;exact rfl;exact cOs)|(apply zk;(iterate 3 exact rfl))|apply q8|(apply x9 (n:=lp.length);(iterate 5 exact rfl);exact hget2))
    refine qx Tryz.call168 (qpj st _ _ _ _ 0 1 0 _ _ _ rfl rfl ?_ ?_ rfl) ?_;(exact hq);(simp only [List.length_append,List.length_cons,List.length_nil];omega)
    repeat' (first|apply ql|apply qk|apply qo|(apply zp;exact rfl;exact rfl;exact qn (by omega) (by omega)))
    refine⟨_,.inr rfl,qdv ⟨rfl,rfl,rfl,rfl,rfl,rfl,?_,trivial⟩ ?_⟩
    ·rw [qdu lp a];rfl
    ·have e:jy pre++zv (lp++[a])=(jy pre++zv lp)++(a++[10]):=by rw [qa3,qgp,List.append_assoc]
     rw [e];rfl
  ·skip
   repeat' (first|apply qr|apply ze|apply ql|apply qk|apply qo|apply qm|(apply zj;exact rfl;exact rfl)|(apply qw;(iterate 3 exact rfl))|(apply qc;exact rfl;apply wa;exact cAo)|(apply qc;exact rfl;apply cd_t;exact cRa)|(apply jc;exact rfl;exact rfl)|(apply jj;exact rfl;exact rfl)|(apply zk;(iterate 3 exact rfl))|(apply zn;(iterate 5 exact rfl))|(apply zm;(iterate 11 exact rfl))|apply q8|apply zb|(apply qx;exact Tryz.call237;exact qwb _ _ hf1 hf2 hc)|(apply x9 (n:=pre.length);(iterate 5 exact rfl);exact hget))
   refine qq rfl (qav rfl) ⟨?_,qe5 _ _ _ _⟩
   unfold qp1
   have h0:errF xs=ww f:=by rw [hr];exact qzy hg hc
   rw [h0,if_neg hc,qjf hc]
   rfl
theorem qtl:∀ (n:Nat) (l:qe),l.length≤n→qu (l++[10])=qu l++[[]]
 |n,l,hn=>by
  by_cases h:10∈l
  ·have hne:l≠[]:=fun e=>by subst e;simp at h
   have hlt:=qat (c:=10) hne
   cases n with
   |zero=>omega
   |succ n=>
    have ih:=qtl n (past 10 l) (by omega)
    have e:=qbr h
    have e2:l++[10]=upto 10 l++10::(past 10 l++[10]):=(congrArg (· ++ [10]) e).trans (by simp)
    rw [qaj (by simp [h]),qaj h,e2,qa9 _ (qca 10 l),qbx _ (qca 10 l),ih]
    rfl
  ·rw [qaj (by simp),qak h,qa9 [] h,qbx [] h]
   rw [qak (by simp)]
   rfl
theorem qg7:∀ (n:Nat) (l:qe) (c:UInt8),l.length≤n→c≠10→qu (l++[c])=(qu l).set ((qu l).length - 1) ((qu l).getD ((qu l).length - 1) []++[c])
 |n,l,c,hn,hc=>by
  by_cases h:10∈l
  ·have hne:l≠[]:=fun e=>by subst e;simp at h
   have hlt:=qat (c:=10) hne
   cases n with
   |zero=>omega
   |succ n=>
    have ih:=qg7 n (past 10 l) c (by omega) hc
    have e:=qbr h
    have e2:l++[c]=upto 10 l++10::(past 10 l++[c]):=(congrArg (· ++ [c]) e).trans (by simp)
    have hp:=qfs (past 10 l)
    have hpl:0<(qu (past 10 l)).length:=List.length_pos_iff.2 hp
    rw [qaj (by simp [h]),qaj h,e2,qa9 _ (qca 10 l),qbx _ (qca 10 l),ih]
    have e3:(upto 10 l::qu (past 10 l)).length - 1=(qu (past 10 l)).length - 1+1:=by simp;omega
    rw [e3,List.set_cons_succ]
    simp
  ·have h2:10∉l++[c]:=by simp [h,Ne.symm hc]
   rw [qak h,qak h2]
   simp
theorem qzc (l:qe):(qu l).length≤l.length+1:=qbh _ l (Nat.le_refl _)
theorem q5s (xs:List qe):flat (xs.map fun x=>Sv x)=xs.map fun x=>Sv x:=by
 induction xs with
 |nil=>rfl
 |cons a xs ih=>rw [List.map_cons,qb8,ih];rfl
set_option maxHeartbeats 2000000 in
theorem q2g (l:qe) (st:List AObj) (hl:l.length<1000000):qp E 298 [Sv l] st fun r st'=>r=Ss (qu l)∧st'=st:=by
 refine zi (qmv _) (qt Tryz.func298 rfl (Nat.le_of_ble_eq_true rfl) ?_)
 have h0:Vec 1 9 (st.length+0) ((qu []).map fun x=>Sv x) (.os (st.length+0) 0 0 1 1) (.cells 0 9 [Sv []]):=by
  rw [qak (by simp)]
  exact .os 0 1 [] rfl (by simp [AV.cells]) (Nat.le_refl _) (by decide)
 repeat' (first|(apply qbt;(iterate 6 exact rfl))|apply qr|apply ze|apply ql|apply qk|apply qm)
 refine qe3 l (fun pre s=>∃ v ob,Vec 1 9 (st.length+0) ((qu pre).map fun x=>Sv x) v ob∧StE [(0,Sv l),(3,v),(4,Iv pre.length)] st [ob] s) ⟨_,_,h0,qhj ⟨rfl,rfl,rfl,trivial⟩ rfl⟩ ?_ ?_
 ·rintro _ ⟨v,ob,hV,t,ext,rfl⟩
  repeat' (first|apply qr|apply ql|apply qk|apply qo|apply qm|(apply qw;(iterate 3 exact rfl))|(apply qc;exact rfl;apply wq;exact cAo)|(apply zx;(iterate 3 exact rfl))|apply jq|apply zb)
  exact q6h (qyr 2 rfl rfl hV rfl) (qq rfl (zf rfl) ⟨rfl,qe5 _ _ _ _⟩)
 ·rintro pre c rest _ hr ⟨v,ob,hV,t,ext,rfl⟩
  have hlen:l.length=pre.length+(rest.length+1):=by rw [hr];simp
  have hget:l.getD pre.length 0=c:=by rw [hr];simp
  have hsp:(l.take (pre.length+1)).drop pre.length=[c]:=by rw [hr,show pre++c::rest=(pre++[c])++rest by simp,List.take_left' (by simp),List.drop_left' rfl]
  have hpc:=qzc pre
  rcases q51 hV with⟨h0,_⟩ | ⟨ver,cap,pad,rfl,rfl,hvl,hvw,hvle,hvm⟩
  ·exact absurd (List.map_eq_nil_iff.1 h0) (qfs pre)
  simp only [List.length_map] at hvle
  have hpos:0<(qu pre).length:=List.length_pos_iff.2 (qfs pre)
  have hml:((qu pre).map fun x=>Sv x).length=(qu pre).length:=by simp
  have hpl:((qu pre).getD ((qu pre).length - 1) []).length≤pre.length:=by
   have hlt:(qu pre).length - 1<(qu pre).length:=by omega
   have e:(qu pre).getD ((qu pre).length - 1) []=(qu pre)[(qu pre).length - 1]:=by simp [List.getD,hlt]
   rw [e]
   exact qek pre _ (List.getElem_mem _)
  have hdl:((l.take (pre.length+1)).drop pre.length).length=1:=by rw [hsp];rfl
  have hld:(flat ((qu pre).map fun x=>Sv x)++pad)[0+((qu pre).length - 1) * 1]? = some (Sv ((qu pre).getD ((qu pre).length - 1) [])):=by
   rw [q5s,Nat.zero_add,Nat.mul_one,List.getElem?_append_left (by simp;omega),List.getElem?_map]
   have:(qu pre)[(qu pre).length - 1]? = some ((qu pre).getD ((qu pre).length - 1) []):=by
    have:(qu pre).length - 1<(qu pre).length:=by omega
    simp [List.getD,this]
   rw [this]
   rfl
  repeat' (first|(apply qsk;(iterate 5 exact rfl);kernel_rfl)|apply qr|apply ze|apply ql|apply qk|apply qo|(apply qw;(iterate 3 exact rfl))|(apply qc;exact rfl;apply wa;exact cAo)|(apply qc;exact rfl;apply cd_d <;> intro h)|(apply zx;(iterate 3 exact rfl))|(apply j7;(iterate 3 exact rfl);exact cAs)|(apply zr;(iterate 9 exact rfl))|apply yb|(apply xm;(iterate 4 exact rfl))|(apply yt;exact rfl;exact rfl;exact qn (by omega) (by omega))|(apply xo;(iterate 4 exact rfl);exact cAs;exact cAs)|(apply vp;exact rfl;exact rfl;exact cOs)|apply w9|(apply yj;exact rfl;exact rfl;exact qn (by omega) (by omega))|apply q8|(apply qic (n:=(qu pre).length - 1);(iterate 4 exact rfl);(simp;omega);(simp;omega))|(apply ka;(iterate 4 exact rfl);exact hld))
  ·refine qtx (xs:=(qu pre).map fun x=>Sv x) (ys:=[Sv []]) (sz:=1) (bytes:=16) rfl rfl rfl hV rfl rfl rfl ⟨⟨_,_,rfl,rfl,rfl,rfl,rfl⟩⟩ rfl ?_ ?_ ?_
   ·simp [maxLen];omega
   ·simp;omega
   intro a' ob' hV'
   repeat' (first|apply ql|apply qk|apply qo|apply qm|(apply zp;exact rfl;exact rfl;exact qn (by omega) (by omega)))
   have hc:c=10:=by rw [hget] at h;exact (qdi c).1 h
   refine⟨a',ob',?_,qdv ⟨rfl,rfl,?_,trivial⟩ rfl⟩
   ·rw [hc,qtl _ pre (Nat.le_refl _),List.map_append]
    exact hV'
   ·rw [qdu pre c];rfl
  ·refine qpe (k:=0) (sz:=1) rfl rfl rfl rfl rfl rfl rfl rfl rfl (by show 0+((qu pre).length - 1) * 1+1≤_;rw [hvl];omega) ?_
   repeat' (first|apply ql|apply qk|apply qo|apply qm|(apply zp;exact rfl;exact rfl;exact qn (by omega) (by omega)))
   have hc:c≠10:=fun e=>by rw [hget] at h;exact h ((qdi c).2 e)
   refine⟨_,_,?_,qdv ⟨rfl,rfl,?_,trivial⟩ rfl⟩
   ·rw [qg7 _ pre c (Nat.le_refl _) hc,← hsp]
    have:=zbf (o:=st.length+0) (T:=9) (ver:=ver) (sz:=1) hvl hvw (by simpa using hvle) hvm (i:=(qu pre).length - 1) (x:=Sv ((qu pre).getD ((qu pre).length - 1) []++(l.take (pre.length+1)).drop pre.length)) rfl (by simp;omega)
    rw [← List.map_set] at this
    exact this
   ·rw [qdu pre c];rfl
theorem qxk (f:FldV) (st:List AObj) (hl:f.1.length<4294967281):qp E 293 [fldA f] st fun r st'=>r=Iv (ww f)∧st'=st:=by
 refine zi (qy _) (qt Tryz.func293 rfl (Nat.le_of_ble_eq_true rfl) ?_)
 repeat' (first|apply qr|apply ql|apply qk|apply qm|(apply qw;(iterate 3 exact rfl))|(apply jv;exact rfl)|(apply qc;exact rfl;apply cd_n <;> intro h)|(apply qc;exact rfl;apply cd_d <;> intro h)|(apply zx;(iterate 3 exact rfl))|(apply vl;(iterate 4 exact rfl))|(apply q5;(iterate 3 exact rfl))|(apply zn;(iterate 5 exact rfl))|apply q8|apply zb|(apply qx;exact Tryz.call143;exact qoq _ _ hl))
 all_goals refine qq rfl (zf rfl) ⟨congrArg Iv (?_:_=ww f),_,rfl⟩
 ·exact (if_pos (by simp_all):ww f=5).symm
 ·exact ((if_neg (by simp_all)).trans (if_pos (by omega)):ww f=6).symm
 ·exact ((if_neg (by simp_all)).trans (if_neg (by omega)):ww f=0).symm
theorem q7d {s:qe} (h:10∉s):qs s=1↔qcd s:=by
 unfold qs qcd
 rw [if_neg h]
 by_cases hb:∀ c∈s,yo c
 ·rw [if_pos hb]
  exact⟨fun _=>hb,fun _=>rfl⟩
 ·rw [if_neg hb]
  refine⟨fun h=>?_,fun h=>absurd h hb⟩
  exfalso
  revert h
  repeat' split
  all_goals decide
theorem q7w (l p:qe) (r:List qe) (st:List AObj) (hl:l.length<1000000) (h:qu l=p::r):qp E 298 [Sv l] st fun x st'=>x = .sl 1 (Sv p::r.map fun x=>Sv x) none∧st'=st:=by
 have:=q2g l st hl
 rw [h] at this
 exact this
theorem qy5 {f:Fld} {p:qe} {r:List qe} (h:qu f.2=p::r):zy f=v8 f.1 p::r.map fun s=>[32]++xv s:=by
 unfold zy
 rw [h]
 rfl
theorem qnm (f:Fld):(zv (zy f)).length≤f.1.length+3 * f.2.length+3:=by
 have h1:=qov (qu f.2).tail
 have h2:=congrArg List.length (qg6 _ f.2 (Nat.le_refl _))
 have h3:(v8 f.1 ((qu f.2).headD [])).length≤f.1.length+2+((qu f.2).headD []).length:=by
  unfold v8
  split <;> simp <;> omega
 have e:zy f=[v8 f.1 ((qu f.2).headD [])]++(qu f.2).tail.map fun s=>[32]++xv s:=rfl
 rw [e,qa3,qgp]
 simp only [List.length_append,List.length_cons,List.length_nil] at h2 ⊢
 omega
theorem qp2:∀ (xs:List Fld),(∀ f∈xs,f.1.length<4294967281∧f.2.length<1000000)→(jy xs).length≤5000000000 * xs.length
 | [],_=>by simp [jy]
 |f::r,h=>by
  have ih:=qp2 r fun x hx=>h x (by simp [hx])
  have h1:=qnm f
  have h2:=h f (by simp)
  have e:jy (f::r)=zv (zy f)++jy r:=by simp [jy]
  rw [e,List.length_append,List.length_cons]
  omega
end Go.Proofs.YtneejjefekdgjaaGreatDoor
namespace Go.Av
open Go Go.RowKit
@[reducible] def qql (K : Act → World → Prop) : Exit → Act → World → Prop
 | .normal,a,w=>K a w
 | _,_,_=>False
structure AZ (E:Env) (N:Nat) (ops:Array Oper) (fuel:Nat) (listed:Array Bool) (K:AS→Prop) (s:AS):Prop where
 run:∀ (B0:Nat) (w0:World) (G:Gh) (a:Act) (w:World),E.L B0 w0→Inv B0 w0 N G s a w→∀ K':Act→World→Prop,(∀ G' s' a' w',G.le G'→Inv B0 w0 N G' s' a' w'→K s'→K' a' w')→wpAnyIn (fw none) 0 E.P .any ops (qql K') fuel listed a w
structure AY (E:Env) (N:Nat) (o:Oper) (s:AS) (r:AV):Prop where
 run:∀ (B0:Nat) (w0:World) (G:Gh) (a:Act) (w:World),Inv B0 w0 N G s a w→∃ v,(∀ w',(execOp a.eval o).run E.P w' = .ok (.value v) w')∧(∀ w',o.about E.P w' a.eval=none)∧Rel G r v
section
variable {E : Env} {N : Nat} {ops : Array Oper} {K : AS → Prop} {s : AS} {fuel : Nat} {listed : Array Bool}
theorem qid {id:Nat} {Q:Exit→AS→Prop} {n:Nat} (hm:E.P.follows .mixedOrders=true) (hn:ops.size=n) (h:AZ E N ops n (Array.replicate n false) (Q .normal) s):AWp E none N (.region id ops true) Q s:=by
 subst hn
 refine⟨fun B0 w0 G a w hL hI=>?_⟩
 have hBl:Below w.heap.size w { w with drawn:=w.drawn+1 }:=⟨rfl,rfl,rfl,Nat.le_refl _,fun _ _=>rfl⟩
 have hI2:Inv B0 w0 N G s a { w with drawn:=w.drawn+1 }:=⟨hI.agree.fresh hBl,hI.defers,hI.size,hI.tmps⟩
 have:=h.run B0 w0 G a _ hL hI2 (fun a' w'=>∃ (G':Gh) (s':AS),G.le G'∧Inv B0 w0 N G' s' a' w'∧Q .normal s') fun G' s' a' w' hG hI' hk=>⟨G',s',hG,hI',hk⟩
 refine wpIn_mono (wpIn_region_any hm this) fun e a' w' hq=>?_
 cases e with
 |normal=>exact hq
 | _=>exact hq.elim
theorem qc5 (hr:Region.ready .any ops listed=[]) (h:K s):AZ E N ops fuel listed K s:=
 ⟨fun B0 w0 G a w hL hI K' hK=>wpAnyIn_done hr (hK G s a w (.refl G) hI h) fuel⟩
theorem qaz (i:Nat) {oi:Oper} {r:AV} (hi:ops[i]? = some oi) (hs:Region.noSelect ops=true) (hf:Region.free .any ops listed i=true) (hr:(Region.ready .any ops listed).contains i=true) (hg:oi.guard=none) (hy:AY E N oi s r)
  (h:AZ E N ops fuel (listed.setIfInBounds i true) K (s.put oi.dst r)):AZ E N ops (fuel+1) listed K s:=by
 refine⟨fun B0 w0 G a w hL hI K' hK=>?_⟩
 obtain⟨v,h1,h2,h3⟩:=hy.run B0 w0 G a w hI
 have hwn:Region.wanted oi (yielded ops a.tmps)=true:=by simp [Region.wanted,hg]
 refine wpAnyIn_take (v:=v) rfl hi hs hf hr (fun c a w hq=>hq.elim) ⟨.inl ⟨hwn,h1⟩,h2⟩ (h.run B0 w0 G _ w hL (hI.put (.refl G) hI.agree oi.dst h3) K' fun G' s' a' w' hG hI' hk=>hK G' s' a' w' hG hI' hk)
theorem qy8 {F:Fence} {n:Nat} {P:Program} {o:Oper} {a:Act} {w:World} {next X Y:Act→World→Prop} (h:o.wpIn F n P a w next (qql X)):o.wpIn F n P a w next (qql Y):=by
 unfold Oper.wpIn at *
 refine⟨h.1,?_⟩
 have h:=h.2
 generalize (o.semAt F.round a.eval).run P w=r at *
 cases r with
 |ok x w'=>
  cases x <;> simp only [Oper.uponIn] at h ⊢
  case value u=>exact h
  case skip=>exact h
  case defer d=>exact h
  case enter f args=>
   refine⟨h.1,CallsIn.mono h.2 fun e w'' he=>?_⟩
   cases e with
   |returned u=>exact he
   |panicked c=>exact he.elim
   |outgrown=>exact absurd he (by simp [LetsOut])
  case row row args=>exact h
  case round l f tmps assign body=>
   refine⟨h.1,RoundIn.mono h.2 fun e w'' he=>?_⟩
   cases e with
   |returned u=>exact he
   |panicked c=>exact he.elim
   |outgrown=>exact absurd he (by simp [LetsOut])
 |halt x w'=>
  cases x <;> simp only [Oper.uponIn] at h ⊢
  case panic u=>exact h.elim
def que (P:Nat→Prop):List Nat→Prop
 | []=>True
 |i::r=>P i∧que P r
theorem qsg {P:Nat→Prop}:∀ {l:List Nat},que P l→∀ i∈l,P i
 | [],_,_,h=>by simp at h
 |j::l,h,i,hi=>by
  rcases List.mem_cons.1 hi with rfl|hi
  ·exact h.1
  ·exact qsg h.2 i hi
theorem yx (rs:List Nat) (hr:Region.ready .any ops listed=rs) (hne:Nat.blt 0 rs.length=true)
  (h:que (fun i=>∃ o,ops[i]? = some o∧AOps E none N ops [o] (AZ E N ops fuel (listed.setIfInBounds i true) K) s) rs):AZ E N ops (fuel+1) listed K s:=by
 refine⟨fun B0 w0 G a w hL hI K' hK=>wpAnyIn_all hr (fun e=>by subst e;simp at hne) fun i hi=>?_⟩
 obtain⟨o,ho,h⟩:=qsg h i hi
 have hrun:=h.run B0 w0 G a w hL hI (qql fun a' w'=>wpAnyIn (fw none) 0 E.P .any ops (qql K') fuel (listed.setIfInBounds i true) a' w') fun G' s' a' w' hG hI' hk=>hk.run B0 w0 G' a' w' hL hI' K' fun G2 s2 a2 w2 hG2 hI2 hk2=>hK G2 s2 a2 w2 (hG.trans hG2) hI2 hk2
 unfold wpOpIn
 rw [ho]
 simp only [wpListIn] at hrun ⊢
 split
 ·rename_i hw
  rw [if_pos hw] at hrun
  exact qy8 hrun
 ·rename_i hw
  rw [if_neg hw] at hrun
  exact hrun
variable {d : Option Tmp} {T : TypeId} {p : String} {af : Array Edge}
theorem q8w {op:Op} {r:AV} (hnc:∀ c,op≠.call c) (h:∀ (G:Gh) (ρ : Operand→Value),(∀ x,Rel G (qj N s x) (ρ x))→∃ v,(∀ w',(execOp ρ ⟨d,op,T,p,af,none⟩).run E.P w' = .ok (.value v) w')∧Rel G r v):AY E N ⟨d,op,T,p,af,none⟩ s r:=
 ⟨fun B0 w0 G a w hI=>let ⟨v,h1,h2⟩:=h G a.eval hI.eval;⟨v,h1,fun w'=>by unfold Oper.about;cases op <;> first|rfl|exact absurd rfl (hnc _),h2⟩⟩
theorem qbc {x:Operand}:AY E N ⟨d,.move x,T,p,af,none⟩ s (qj N s x):=q8w nofun fun G ρ hρ=>⟨ρ x,fun w'=>by simp [execOp],hρ x⟩
theorem qsm {x:Operand}:AY E N ⟨d,.assign x,T,p,af,none⟩ s (qj N s x):=q8w nofun fun G ρ hρ=>⟨ρ x,fun w'=>by simp [execOp],hρ x⟩
end
theorem qrh {E:Env} {rd:Option Nat} {N:Nat} {c:Code} {Q:Exit→AS→Prop} {s:AS} (I:AS→Prop) (h:AWp E rd N c (only I) s) (hk:∀ s',I s'→Q .normal s'):AWp E rd N c Q s:=h.mono fun e s' h=>by
 cases e <;> first|exact hk _ h|exact h.elim
end Go.Av
namespace Go.Proofs.YtneejjefekdgjaaGreatDoor
open Go Go.Av Go.RowKit Go.Proofs Go.Pl
theorem qin {l:qe}:qs l=4↔10∉l∧58∈l∧qau (jt l):=by
 unfold qs
 by_cases h10:10∈l
 ·simp [h10]
 ·rw [if_neg h10]
  constructor
  ·intro h
   split at h
   ·simp at h
   ·split at h
    ·simp at h
    ·split at h
     ·simp at h
     ·split at h
      ·rename_i hk;exact⟨h10,hk.1,hk.2⟩
      ·simp at h
  ·rintro⟨_,h58,hk⟩
   obtain⟨c,hc,hb,h35⟩:=qim hk
   have hh:l.head? = some c:=by
    cases l with
    |nil=>simp at h58
    |cons a r=>
     unfold jt at hc
     rw [List.takeWhile_cons] at hc
     split at hc
     ·simpa using hc
     ·simp at hc
   have hmem:c∈l:=List.mem_of_head? hh
   rw [if_neg (fun h'=>hb (h' c hmem)),if_neg (by rw [hh];simpa using h35),if_neg (fun ⟨d,hd,hd'⟩=>by rw [hh] at hd;cases hd;exact hb hd'),if_pos ⟨h58,hk⟩]
theorem q1u (l:qe) (st:List AObj) (hl:l.length<4294967281) (h:qs l=4):qp E 272 [Sv l] st fun r st'=>r = .tu [Sv (jt l),Sv (wn l),Bv true]∧st'=st:=by
 refine zi (ql4 _ _ _) (qt Tryz.func272 rfl (Nat.le_of_ble_eq_true rfl) ?_)
 have hc:Lib.cut l [58]=(jt l,wn l,true):=by rw [qss,if_pos (qin.1 h).2.1]
 repeat' (first|apply qr|apply ql|apply qk|apply qo|apply qm|(apply zj;exact rfl;exact rfl)|(apply qw;(iterate 3 exact rfl))|(apply qc;exact rfl;apply wq;exact cAo)|apply q8|apply zb|(apply qx;exact Tryz.call122;exact qlq _ _ hl)|(apply qx;exact Tryz.call72;exact q1b _ _ _ hl))
 refine qq rfl (qgv rfl) ⟨qx9 (?_:_=_),_,rfl⟩
 rw [hc]
theorem qy4 (l:qe) (st:List AObj) (hl:l.length<4294967281) (h:qs l≠4):qp E 272 [Sv l] st fun r st'=>r = .tu [Sv [],Sv [],Bv false]∧st'=st:=by
 refine zi (ql4 _ _ _) (qt Tryz.func272 rfl (Nat.le_of_ble_eq_true rfl) ?_)
 repeat' (first|apply qr|apply ql|apply qk|apply qo|apply qm|(apply qw;(iterate 3 exact rfl))|(apply qc;exact rfl;apply wa;exact cAo)|apply zb|(apply qx;exact Tryz.call122;exact qlq _ _ hl))
 exact qq rfl (qgv rfl) ⟨rfl,_,rfl⟩
def qf3 (ls:List qe):AV:=.tu [fldA (jp ls).1,errN (jp ls).2]
theorem qya (ls:List qe):Pure (qf3 ls):=qd9 fun x hx=>by
 simp only [List.mem_cons,List.not_mem_nil,or_false] at hx
 rcases hx with rfl|rfl
 ·exact qrz fun x hx=>by
   simp only [List.mem_cons,List.not_mem_nil,or_false] at hx
   rcases hx with rfl|rfl <;> exact qy _
 ·exact qii _
structure LsB (ls:List qe):Prop where
 len:ls.length<1000000
 val:∀ s∈ls,s.length<1000000
theorem qou:∀ (r:List qe),(∀ s∈r,s.length<1000000)→(r.flatMap fun s=>[10]++yi 46 (s.drop 1)).length≤1000001 * r.length
 | [],_=>by simp
 |a::r,h=>by
  have ih:=qou r fun s hs=>h s (by simp [hs])
  have ha:=h a (by simp)
  have ht:(yi 46 (a.drop 1)).length≤a.length:=by unfold yi;split <;> simp <;> omega
  simp only [List.flatMap_cons,List.length_append,List.length_cons,List.length_nil]
  omega
theorem q4f (v:qe) (r:List qe):Lib.join (v::r.map fun s=>yi 46 (s.drop 1)) [10]=v++r.flatMap fun s=>[10]++yi 46 (s.drop 1):=by
 rw [Lib.join_cons]
 unfold Lib.joinTail
 rw [List.map_map,List.flatMap_def]
 rfl
theorem q97 (xs:List qe) (tip:Option Nat) (sep v:qe) (st:List AObj) (h:Lib.join xs sep=v) (hN:xs.length≤140737488355328) (hl:v.length≤140737488355328):qp E 127 [.sl 1 (xs.map fun x=>Sv x) tip,Sv sep] st fun r st'=>r=Sv v∧st'=st:=by
 subst h
 exact q4e xs tip sep st hN hl
theorem q5d (l:qe) (st:List AObj) (hl:l.length<4294967281) (h:qs l=4):qp E 221 [Sv l] st fun r st'=>r = .tu [Sv (jt l),Sv (wn l),Bv true]∧st'=st:=by
 have:=qxm l st hl
 have e:qeo l=(jt l,wn l,true):=if_pos (qin.1 h)
 rw [e] at this
 exact this
theorem qjh {s:qe} (h:qs s=3):2≤s.length∧10∉s:=by
 have h10:10∉s:=fun h'=>by unfold qs at h;rw [if_pos h'] at h;simp at h
 refine⟨?_,h10⟩
 unfold qs at h
 rw [if_neg h10] at h
 split at h
 ·simp at h
 ·rename_i hb
  split at h
  ·simp at h
  ·split at h
   ·rename_i hbl
    obtain⟨c,hc,hcb⟩:=hbl
    match s,hc with
    | [a],hc=>
     simp at hc
     subst hc
     exact absurd (by simpa using hcb) hb
    |a::b::r,_=>simp
   ·split at h <;> simp at h
def qc0 (ls:List qe):AV:=.tu [fldA (jp ls).1,Iv (jp ls).2]
theorem qqu (ls:List qe):Pure (qc0 ls):=qd9 fun x hx=>by
 simp only [List.mem_cons,List.not_mem_nil,or_false] at hx
 rcases hx with rfl|rfl
 ·exact qrz fun x hx=>by
   simp only [List.mem_cons,List.not_mem_nil,or_false] at hx
   rcases hx with rfl|rfl <;> exact qy _
 ·exact qy _
def accU (l:qe) (pre:List qe):qe:=yi 32 (wn l)++pre.flatMap fun s=>[10]++yi 46 (s.drop 1)
theorem q22 (l:qe) (pre:List qe) (a:qe):accU l (pre++[a])=(accU l pre++[10])++yi 46 (a.drop 1):=by
 unfold accU
 rw [List.flatMap_append]
 simp
theorem q57 (l:qe) (pre:List qe) (h:∀ s∈pre,s.length<1000000):(accU l pre).length≤l.length+1000001 * pre.length:=by
 have htr:(yi 32 (wn l)).length≤l.length:=by unfold yi wn;split <;> simp <;> omega
 have:=qou pre h
 unfold accU
 rw [List.length_append]
 omega
theorem quv (c:UInt8):((c.toNat:Nat):Int)=46↔c=46:=u8i c 46 (by omega)
theorem qj9 {α : Type} {P : α→Prop} {pre:List α} {a : α} (h:∀ x∈pre,P x) (ha:P a):∀ x∈pre++[a],P x:=fun x hx=>by
 rcases List.mem_append.1 hx with hx|hx
 ·exact h x hx
 ·simp at hx;subst hx;exact ha
end Go.Proofs.YtneejjefekdgjaaGreatDoor
namespace Go.Pl
open Go Go.Proofs
structure LnV where
 no:Nat
 at':Nat
 text:qe
 ended : Bool
def y6 (k a:Nat) (l:qe):List LnV:=if h:l=[] then [] else⟨k,a,upto 10 l,decide (10∈l)⟩::y6 (k+1) (a+(upto 10 l).length+1) (past 10 l)
 termination_by l.length
 decreasing_by exact qat h
def lns (l:qe):List LnV:=y6 0 0 l
theorem qd4 (k a:Nat):y6 k a []=[]:=by unfold y6;simp
theorem qdq {k a:Nat} {l:qe} (h:l≠[]):y6 k a l=⟨k,a,upto 10 l,decide (10∈l)⟩::y6 (k+1) (a+(upto 10 l).length+1) (past 10 l):=by
 conv=>lhs;unfold y6
 rw [dif_neg h]
def whole (l:qe):Prop:=l=[]∨l.getLast? = some 10
theorem q2v {l:qe} (h:whole l) (hne:l≠[]):10∈l∧whole (past 10 l):=by
 have hl:l.getLast? = some 10:=h.resolve_left hne
 have h10:10∈l:=List.mem_of_getLast? hl
 refine⟨h10,?_⟩
 by_cases hp:past 10 l=[]
 ·exact .inl hp
 ·refine .inr ?_
  have e:=qbr h10
  rw [e] at hl
  rw [List.getLast?_append,List.getLast?_cons] at hl
  cases hg:(past 10 l).getLast? with
  |none=>exact absurd (List.getLast?_eq_none_iff.1 hg) hp
  |some c=>rw [hg] at hl;simpa using hl
theorem qrs:∀ (n:Nat) (d x:qe) (k a:Nat),d.length≤n→whole d→y6 k a (d++x)=y6 k a d++y6 (k+(y6 k a d).length) (a+d.length) x
 |n,d,x,k,a,hn,hw=>by
  by_cases hd:d=[]
  ·subst hd
   simp [qd4]
  ·obtain⟨h10,hw'⟩:=q2v hw hd
   have e:=qbr h10
   have hlt:=qat (c:=10) hd
   cases n with
   |zero=>omega
   |succ n=>
    have e2:d++x=upto 10 d++10::(past 10 d++x):=(congrArg (· ++ x) e).trans (by simp)
    have hu:upto 10 (d++x)=upto 10 d:=by rw [e2];exact qa9 _ (qca 10 d)
    have hp:past 10 (d++x)=past 10 d++x:=by rw [e2];exact qbx _ (qca 10 d)
    have hdl:d.length=(upto 10 d).length+1+(past 10 d).length:=by
     have:=congrArg List.length e
     simp at this
     omega
    rw [qdq (l:=d++x) (by simp [hd]),qdq hd,hu,hp,qrs n (past 10 d) x _ _ (by omega) hw']
    have h1:10∈d++x:=by simp [h10]
    simp only [h1,h10,List.cons_append,List.length_cons]
    congr 2
    have e3:∀ m:Nat,k+1+m=k+(m+1):=fun m=>by omega
    rw [e3]
    congr 1
    omega
theorem zad {c:qe} (k a:Nat) (h:10∉c):y6 k a (c++[10])=[⟨k,a,c,true⟩]:=by
 rw [qdq (by simp),qa9 [] h,qbx [] h,qd4]
 simp
theorem q7h {c:qe} (k a:Nat) (h:10∉c) (hne:c≠[]):y6 k a c=[⟨k,a,c,false⟩]:=by
 rw [qdq hne,qe1 h]
 have:past 10 c=[]:=by
  unfold past
  rw [qe1 h]
  simp
 rw [this,qd4]
 simp [h]
theorem qiq:∀ (n:Nat) (l:qe) (k a:Nat),l.length≤n→(y6 k a l).length≤l.length
 |n,l,k,a,hn=>by
  by_cases h:l=[]
  ·subst h;simp [qd4]
  ·have hlt:=qat (c:=10) h
   cases n with
   |zero=>omega
   |succ n=>
    rw [qdq h,List.length_cons]
    have:=qiq n (past 10 l) (k+1) (a+(upto 10 l).length+1) (by omega)
    omega
theorem qtc:∀ (n:Nat) (l:qe) (k a:Nat),l.length≤n→(y6 k a l).map (fun x=>(x.text,x.ended))=vm l
 |n,l,k,a,hn=>by
  by_cases h:l=[]
  ·subst h;simp [qd4,qai]
  ·have hlt:=qat (c:=10) h
   cases n with
   |zero=>omega
   |succ n=>rw [qdq h,qbb h,List.map_cons,qtc n _ _ _ (by omega)]
end Go.Pl
namespace Go.Proofs.YtneejjefekdgjaaGreatDoor
open Go Go.Av Go.RowKit Go.Proofs Go.Pl
@[reducible] def lnA (x : LnV) : AV := .ag [Iv x.no, Iv x.at', Sv x.text, Bv x.ended]
@[reducible] def lnsA (xs : List LnV) : AV := .sl 4 (xs.map lnA) none
theorem q71 (xs:List LnV):Pure (lnsA xs):=qc9 fun x hx=>by
 simp only [List.mem_map] at hx
 obtain⟨f,_,rfl⟩:=hx
 intro y hy
 simp [AV.cells] at hy
 rcases hy with rfl|rfl|rfl|rfl <;> exact qy _
set_option maxHeartbeats 4000000 in
theorem q2h (l:qe) (st:List AObj) (hl:l.length<100000000):qp E 137 [Sv l] st fun r st'=>r=lnsA (lns l)∧st'=st:=by
 refine zi (q71 _) (qt Tryz.func137 rfl (Nat.le_of_ble_eq_true rfl) ?_)
 repeat' (first|apply qr|apply ze|apply ql|apply qk|apply qm)
 refine qpi (i:=3) (sz:=4) (T':=219) rfl ?_
 refine qe3 l (fun pre s=>∃ d c,pre=d++c∧whole d∧10∉c∧StE [(0,Sv l),(3,.sl 4 ((lns d).map lnA) (some (st.length+0))),(4,Iv d.length),(5,Iv pre.length)] st [.tip (lns d).length 4 219] s) ⟨[],[],rfl,.inl rfl,by simp,qhj ⟨rfl,?_,rfl,rfl,trivial⟩ ?_⟩ ?_ ?_
 ·rw [show lns []=[] from qd4 0 0];simp;rfl
 ·rw [show lns []=[] from qd4 0 0];show (st++[])++[AObj.tip 0 4 _]=_;simp
 ·rintro _ ⟨d,c,hdc,hw,hc,t,ext,rfl⟩
  have hll:l.length=d.length+c.length:=by rw [hdc];simp
  have hcnt:=qiq _ d 0 0 (Nat.le_refl _)
  have hcnt':(lns d).length≤d.length:=hcnt
  have hml:((lns d).map lnA).length=(lns d).length:=by simp
  have happ:lns l=lns d++y6 (lns d).length d.length c:=by
   unfold lns
   rw [hdc,qrs _ d c 0 0 (Nat.le_refl _) hw]
   simp
  have hfrom:l.drop d.length=c:=by rw [hdc];simp
  repeat' (first|apply qr|apply ql|apply qk|apply qo|apply qm|(apply qw;(iterate 3 exact rfl))|(apply qc;exact rfl;apply wq;exact cAo)|(apply qc;exact rfl;apply cd_d <;> intro h)|(apply zx;(iterate 3 exact rfl))|(apply zu;(iterate 4 exact rfl))|(apply vn;(iterate 3 exact rfl);exact cAs)|(apply ju;(iterate 3 exact rfl))|(apply zr;(iterate 9 exact rfl))|apply q8|apply jq|apply zb|(apply qdc (n:=(lns d).length) (m:=1) (sz:=4) (bytes:=40);(iterate 4 exact rfl);exact hml;exact rfl;exact rfl;exact⟨⟨_,_,rfl,rfl,rfl,rfl,rfl⟩⟩;exact rfl;exact rfl;(unfold maxLen;omega);omega;exact rfl))
  ·have hne:c≠[]:=fun e=>by subst e;simp at hll;omega
   have e:AV.sl 4 ((lns d).map lnA++[AV.ag [Iv ((lns d).map lnA).length,Iv d.length,Sv (l.drop d.length),Bv false]]) none=AV.sl 4 ((lns l).map lnA) none:=by
    rw [happ,q7h _ _ hc hne,hml,hfrom,List.map_append]
    rfl
   exact qq rfl (qjr rfl rfl) ⟨e,qe5 _ _ _ _⟩
  ·have hce:c=[]:=List.length_eq_zero_iff.1 (by omega)
   refine qq rfl (qjr rfl rfl) ⟨?_,qe5 _ _ _ _⟩
   rw [happ,hce,qd4,List.append_nil]
 ·rintro pre a rest _ hr ⟨d,c,hdc,hw,hc,t,ext,rfl⟩
  have hlen:l.length=pre.length+(rest.length+1):=by rw [hr];simp
  have hpl:pre.length=d.length+c.length:=by rw [hdc];simp
  have hget:l.getD pre.length 0=a:=by rw [hr];simp
  have hcnt:=qiq _ d 0 0 (Nat.le_refl _)
  have hcnt':(lns d).length≤d.length:=hcnt
  have hml:((lns d).map lnA).length=(lns d).length:=by simp
  have hsp:(l.take pre.length).drop d.length=c:=by rw [hr,List.take_left' rfl,hdc,List.drop_left' rfl]
  repeat' (first|apply qr|apply ze|apply ql|apply qk|apply qo|apply qm|(apply qw;(iterate 3 exact rfl))|(apply qc;exact rfl;apply wa;exact cAo)|(apply qc;exact rfl;apply cd_d <;> intro h)|(apply zx;(iterate 3 exact rfl))|(apply zu;(iterate 4 exact rfl))|(apply zp;exact rfl;exact rfl;exact qn (by omega) (by omega))|(apply j7;(iterate 3 exact rfl);exact cAs)|(apply va;(iterate 4 exact rfl);exact cAs;exact cAs)|(apply ju;(iterate 3 exact rfl))|(apply zr;(iterate 9 exact rfl))|apply q8|(apply qdc (n:=(lns d).length) (m:=1) (sz:=4) (bytes:=40);(iterate 4 exact rfl);exact hml;exact rfl;exact rfl;exact⟨⟨_,_,rfl,rfl,rfl,rfl,rfl⟩⟩;exact rfl;exact rfl;(unfold maxLen;omega);omega;exact rfl))
  ·have ha:a=10:=by have h:=(qdi _).1 (by assumption:((l.getD pre.length 0).toNat:Int)=10);rw [hget] at h;exact h
   have happ:lns (d++(c++[10]))=lns d++[⟨(lns d).length,d.length,c,true⟩]:=by
    unfold lns
    rw [qrs _ d (c++[10]) 0 0 (Nat.le_refl _) hw,zad _ _ hc]
    simp
   refine⟨d++(c++[10]),[],by rw [ha,hdc];simp,.inr (by simp),by simp,qdv ⟨rfl,?_,?_,qrp pre a,trivial⟩ ?_⟩
   ·have e:AV.sl 4 ((lns d).map lnA++[AV.ag [Iv ((lns d).map lnA).length,Iv d.length,Sv ((l.take pre.length).drop d.length),Bv true]]) (some (st.length+0))=AV.sl 4 ((lns (d++(c++[10]))).map lnA) (some (st.length+0)):=by
     rw [happ,hml,hsp,List.map_append]
     rfl
    exact e
   ·have e:Iv ((pre.length:Int)+1)=Iv ((d++(c++[10])).length:Nat):=by
     have:(d++(c++[10])).length=pre.length+1:=by simp;omega
     rw [this]
     rfl
    exact e
   ·rw [happ,qdu];rfl
  ·have ha:a≠10:=fun e=>absurd (by rw [hget];exact (qdi _).2 e:((l.getD pre.length 0).toNat:Int)=10) (by assumption)
   exact⟨d,c++[a],by rw [hdc];simp,hw,by simp [hc,Ne.symm ha],qdv ⟨rfl,rfl,rfl,qrp pre a,trivial⟩ rfl⟩
end Go.Proofs.YtneejjefekdgjaaGreatDoor
namespace Go.Pl
open Go Go.Proofs
def indF (by':qe) (ls:List (qe×Bool)):qe:=ls.flatMap fun x=>by'++x.1++qrr x.2
def qro (by' l:qe):qe:=indF by' (vm l)
def qdh (x:LnV):qe×Bool:=(x.text,x.ended)
theorem q4m (l:qe):(lns l).map qdh=vm l:=qtc _ l 0 0 (Nat.le_refl _)
end Go.Pl
namespace Go.Av
open Go Go.RowKit
def TipC (b:Nat) (st:List AObj) (sz:Nat) (T:TypeId) (xs:List AV) (c:AV):Prop:=(xs=[]∧c=jw)∨∃ t,c = .sl sz xs (some t)∧st[t]? = some (.tip xs.length sz T)∧b≤t
structure Fr (st st':List AObj) (t:Nat):Prop where
 len:st.length≤st'.length
 same:∀ k,k≠t→k<st.length→st'[k]? = st[k]?
theorem q8q (b:Nat) (st:List AObj) (sz:Nat) (T:TypeId):TipC b st sz T [] jw:=.inl ⟨rfl,rfl⟩
theorem qh7 {b:Nat} {st l:List AObj} {sz:Nat} {T:TypeId} {xs:List AV} {c:AV} (h:TipC b st sz T xs c):TipC b (st++l) sz T xs c:=by
 rcases h with h | ⟨t,h1,h2,h3⟩
 ·exact .inl h
 ·exact .inr ⟨t,h1,by rw [List.getElem?_append_left (lt_of_getElem? h2)];exact h2,h3⟩
section
variable {E : Env} {rd : Option Nat} {N : Nat} {ops : Array Oper} {K : AS → Prop} {s : AS} {rest : List Oper} {d : Option Tmp} {T : TypeId} {p : String} {af : Array Edge}
theorem qu8 {x y:Operand} {t u T':TypeId} {sz bytes b:Nat} {xs ys:List AV} {tip:Option Nat} {c:AV} {st:List AObj} (hst:s.st=st) (hx:qj N s x=c) (hc:TipC b st sz T' xs c) (hb:b≤st.length) (hy:qj N s y = .sl sz ys tip)
  (ht:E.P.underlying t=some (.slice T')) (hu:E.P.underlying u=some (.slice T')) (hT:qan E.P T' sz bytes) (hone:wj (flat ys)=true) (h63:xs.length+ys.length≤maxLen) (hby:(xs.length+ys.length) * bytes≤140737488355328)
  (h:∀ t1 st',st'[t1]? = some (.tip (xs++ys).length sz T')→b≤t1→Fr st st' t1→(c = .sl sz xs (some t1)∨st.length≤t1)→AOps E rd N ops rest K (AS.put ⟨s.t,st',s.df⟩ d (.sl sz (xs++ys) (some t1)))):AOps E rd N ops (⟨d,.call ⟨.builtin .append,#[x,y],#[t,u]⟩,T,p,af,none⟩::rest) K s:=by
 subst hst
 refine q7 rfl (qz nofun fun B0 w0 G a w _ hI=>?_)
 rcases hc with⟨hxs,hcn⟩ | ⟨t1,h1,h2,h3⟩
 ·subst hxs
  have hle:=G.le_new 0 0 0 false
  have hA:=hI.agree.newTip sz T'
  have hv:a.eval x = .slice none 0 0:=hI.evalv (hx.trans hcn)
  have hn:=hI.agree.n
  obtain⟨news,k1,k2,k3⟩:=qa2 (P:=E.P) hA ((hI.eval_of hy).mono hle) (by simpa [wj] using hone)
  have hr:Rel (G.new 0 0 0 false) (.sl sz [] (some s.st.length)) (a.eval x):=by
   rw [hv]
   exact .sl0 sz _ none 0 fun t ht=>by simp only [Option.some.injEq] at ht;subst ht;exact⟨by simp [Gh.new,hn],rfl,rfl⟩
  obtain⟨v',w',G',e1,e2,e3,e4⟩:=qcl (ty:=T) hA ht hu (.inr ⟨_,rfl⟩) hT (t:=s.st.length) (n:=0) (by simp) hr rfl rfl k1 k2 k3 (by simpa using h63) (by simpa using hby)
  refine⟨v',w',G',_,_,?_,hle.trans e2,e3,e4,h s.st.length _ ?_ hb ⟨by simp,fun k hk hlt=>?_⟩ (.inr (Nat.le_refl _))⟩
  ·generalize a.eval = ρ at e1
   simp [execOp,resolve,invoke,builtin,e1]
  ·simp
  ·rw [List.getElem?_set_ne (Ne.symm hk),List.getElem?_append_left hlt]
 ·obtain⟨news,k1,k2,k3⟩:=qa2 (P:=E.P) hI.agree (hI.eval_of hy) (by simpa [wj] using hone)
  obtain⟨v',w',G',e1,e2,e3,e4⟩:=qcl (ty:=T) hI.agree ht hu (.inr ⟨_,rfl⟩) hT h2 (hI.eval_of (hx.trans h1)) rfl rfl k1 k2 k3 h63 hby
  refine⟨v',w',G',_,_,?_,e2,e3,e4,h t1 _ ?_ h3 ⟨by simp,fun k hk hlt=>?_⟩ (.inl h1)⟩
  ·generalize a.eval = ρ at e1
   simp [execOp,resolve,invoke,builtin,e1]
  ·rw [List.length_append]
   exact xg h2
  ·rw [List.getElem?_set_ne (Ne.symm hk)]
theorem qk9 {t:TypeId} {x:Operand} {r:AV} {cs:List AV} (hx:qj N s x=r) (hok:r.okc=true) (hc:r.cells=cs)
  (h:AOps E rd N ops rest K (s.put d (.pp cs))):AOps E rd N ops (⟨d,.box t x,T,p,af,none⟩::rest) K s:=by
 refine q7 rfl (qz nofun fun B0 w0 G a w _ hI=>?_)
 have hr:=(hI.eval_of hx).cells hok
 rw [hc] at hr
 obtain⟨hle,hA⟩:=hI.agree.newPub t (a.eval x).cells (0,0) (a.eval x).cells.toList (fun i y hy=>by simpa using hy)
 have hrun:(execOp a.eval ⟨d,.box t x,T,p,af,none⟩).run E.P w = .ok (.value (.pointer (some ⟨w.heap.size,0,none⟩))) (w.alloc (.cells (a.eval x).cells t)):=by
  generalize a.eval = ρ
  simp [execOp,Instr.box,newVar,newRow,newObj,Sem.run]
 refine⟨_,_,_,.pp cs,s.st,hrun,hle,hA,.pp cs w.heap.size 0 (a.eval x).cells.toList (by simp [Gh.publish]) (by rw [hr.1];simp) fun i x y hx hy=>(hr.2 i x y hx (by simpa using hy)).mono hle,h⟩
end
theorem qm4 {E:Env} {f:FuncId} {x x':AV} {us:List AV} {st:List AObj} {R:AV→List AObj→Prop} (hw:∀ G v,Rel G x v→Rel G x' v) (h:qp E f (x'::us) st R):qp E f (x::us) st R:=
 ⟨fun B0 w0 G vals w hL hA hR=>h.run B0 w0 G vals w hL hA ⟨by have:=hR.1;simpa using this,fun i a b ha hb=>by
  cases i with
  |zero=>simp at ha;subst ha;exact hw G b (hR.2 0 x b rfl hb)
  |succ i=>exact hR.2 (i+1) a b (by simpa using ha) hb⟩⟩
theorem qex {st l:List AObj} {o:Nat} {x:AObj} (h:st[o]? = some x):(st++l)[o]? = some x:=by
 rw [List.getElem?_append_left (lt_of_getElem? h)];exact h
theorem qbd {st:List AObj} {x:AObj}:(st++[x])[st.length]? = some x:=by simp
section
variable {E : Env} {rd : Option Nat} {N : Nat} {ops : Array Oper} {K : AS → Prop} {s : AS} {rest : List Oper} {d : Option Tmp} {T : TypeId} {p : String} {af : Array Edge}
theorem qyg {t:TypeId} {st:List AObj} {cs:List AV} (hst:s.st=st) (hz:qix E.P t=some cs)
  (h:AOps E rd N ops rest K (AS.put ⟨s.t,st++[.cells 0 t cs],s.df⟩ d (.bx st.length 0 0))):AOps E rd N ops (⟨d,.alloc t,T,p,af,none⟩::rest) K s:=
 jj (loc:=[]) (by rw [hst];simp) hz h
theorem q28 {t:TypeId} {x:Operand} {st:List AObj} {r:AV} {cs:List AV} (hst:s.st=st) (hx:qj N s x=r) (hok:r.okc=true) (hc:r.cells=cs)
  (h:AOps E rd N ops rest K (AS.put ⟨s.t,st++[.cells 0 t cs],s.df⟩ d (.bx st.length 0 0))):AOps E rd N ops (⟨d,.box t x,T,p,af,none⟩::rest) K s:=
 vl (loc:=[]) (by rw [hst];simp) hx hok hc h
end
theorem qjx {st st':List AObj} (hl:st.length≤st'.length) (h:∀ k,k<st.length→st'[k]? = st[k]?):∃ ext,st'=st++ext:=by
 refine⟨st'.drop st.length,?_⟩
 apply List.ext_getElem?
 intro k
 by_cases hk:k<st.length
 ·rw [h k hk,List.getElem?_append_left hk]
 ·rw [List.getElem?_append_right (by omega),List.getElem?_drop]
  congr 1
  omega
end Go.Av
namespace Go.Proofs.YtneejjefekdgjaaGreatDoor
open Go Go.Av Go.RowKit Go.Proofs
def qhz (x:Option AObj):Prop:=∀ n sz T,x≠some (.tip n sz T)
theorem qbw {ver:Nat} {T:TypeId} {cs:List AV} {x:Option AObj} (h:x=some (.cells ver T cs)):qhz x:=fun n sz T' e=>by
 rw [h] at e
 simp at e
end Go.Proofs.YtneejjefekdgjaaGreatDoor
namespace Go.Proofs.YtneejjefekdgjaaGreatDoor
open Go Go.Av Go.RowKit Go.Proofs Go.Pl
structure Ext (n:Nat) (S S':List AObj):Prop where
 len:S.length≤S'.length
 low:∀ k,k<n→S'[k]? = S[k]?
 tips:∀ (t m sz:Nat) (T:TypeId),S[t]? = some (AObj.tip m sz T)→S'[t]? = S[t]?
theorem qhe {n:Nat} {S l:List AObj} (h:n≤S.length):Ext n S (S++l):=⟨by simp,fun k hk=>List.getElem?_append_left (by omega),fun t m sz T ht=>List.getElem?_append_left (lt_of_getElem? ht)⟩
theorem qd0 {n o:Nat} {S:List AObj} {x:AObj} (h:n≤o) (hn:qhz S[o]?):Ext n S (S.set o x):=⟨by simp,fun k hk=>List.getElem?_set_ne (by omega),fun t m sz T ht=>List.getElem?_set_ne (fun e=>by subst e;exact hn _ _ _ ht)⟩
theorem Ext.weak {n m:Nat} {S S':List AObj} (h:Ext n S S') (hm:m≤n):Ext m S S':=⟨h.len,fun k hk=>h.low k (by omega),h.tips⟩
theorem Ext.trans {n:Nat} {S S' S'':List AObj} (h:Ext n S S') (k:Ext n S' S''):Ext n S S'':=⟨Nat.le_trans h.len k.len,fun i hi=>(k.low i hi).trans (h.low i hi),fun t m sz T ht=>(k.tips t m sz T ((h.tips t m sz T ht).trans ht)).trans (h.tips t m sz T ht)⟩
theorem q5q (text:List UInt8) (o kb ver n m:Nat) (I:Nat→List UInt8→List AObj→Prop) (D:List AObj→Prop) (S:List AObj) (hm:S.length=m) (hn:n≤m) (ht:text.length<4294967281) (h0:I 0 text S)
  (hI:∀ k rest S',I k rest S'→S'[kb]? = some (.cells ver 9 [Sv text]))
  (hst:∀ k rest S' S'',Ext n S' S''→I k rest S'→I k rest S'')
  (hY:∀ k rest S' cs,I k rest S'→S'[m]? = some (.cells 0 145 cs)→rest≠[]→rest.length≤text.length→qdj E o [qul k text rest] S' fun b S''=>S''[m]? = some (.cells 0 145 cs)∧(b=true→I (k+1) (past 10 rest) S'')∧(b=false→D S'')) :
  qp E 121 [.yd o,.bx kb ver 0] S fun r S'=>(∃ k,I k [] S')∨D S':=by
 subst hm
 refine qt Tryz.func121 rfl (Nat.le_of_ble_eq_true rfl) ?_
 have hb:=hI 0 text S h0
 repeat' (first|apply qr|apply ze|apply ql|apply qk|apply qm|(apply jj;exact rfl;exact rfl)|(apply zm;(iterate 11 exact rfl))|(apply ju;(iterate 3 exact rfl))|(apply qkz;exact rfl;exact rfl;exact hb;exact rfl;exact rfl))
 refine yl (fun (x:Nat×List UInt8) s=>match x with|(k,rest)=>∃ S' at' ta eb,I k rest S'∧k+rest.length≤text.length∧at'=(text.length:Int) - rest.length∧S'[S.length]? = some (.cells 0 145 [Iv k,Iv at',Sv ta,Bv eb])∧StA [(0,.yd o),(1,.bx kb ver 0),(3,.bx S.length 0 0),(4,Sv rest)] S' [] s) (fun x=>x.2.length) (0,text)
  ⟨_,0,[],false,hst _ _ _ _ (qhe hn) h0,by simp,by simp,qbe (k:=0) rfl,v6 ⟨rfl,rfl,rfl,rfl,trivial⟩⟩ ?_
 rintro⟨k,rest⟩ _ ⟨S',_,ta,eb,hi,hle,rfl,hown,t,rfl⟩
 have hb':=hI k rest S' hi
 repeat' (first|apply qr|apply ze|apply ql|apply qk|apply qo|apply qm|(apply zj;exact rfl;exact rfl)|(apply jm;(iterate 3 exact rfl))|(apply qc;exact rfl;apply cd_d <;> intro h)|(apply q5;(iterate 3 exact rfl))|apply q8|apply jq|(apply qx;exact Tryz.call72;exact zbz _ _ _ (by omega))|(apply ya;exact rfl;(focus first|assumption|(repeat' (first|assumption|exact qbd|exact qbe rfl|apply xg|apply yq|omega|apply qex)));exact rfl;exact rfl)|(apply qc4;exact rfl;exact rfl;(focus first|assumption|(repeat' (first|assumption|exact qbd|exact qbe rfl|apply xg|apply yq|omega|apply qex)));(iterate 6 exact rfl)))
 ·have e1:Ext n S' ((S'.set S.length (.cells 0 145 [Iv k,Iv ((text.length:Int) - rest.length),Sv (upto 10 rest),Bv eb])).set S.length (.cells 0 145 [Iv k,Iv ((text.length:Int) - rest.length),Sv (upto 10 rest),Bv (decide (10∈rest))])):=
   (qd0 hn (qbw hown)).trans (qd0 hn (qbw (xg hown)))
  apply qi7 (o:=o) rfl
  refine qdj.mono (hY k rest _ _ (hst _ _ _ _ e1 hi) (xg (xg hown)) h (by omega)) ?_
  rintro b S2 ⟨hown2,h1,h2⟩
  show AOps _ _ _ _ _ _ _
  cases b
  ·skip
   repeat' (first|apply qk|(apply jv;exact rfl)|(apply qc;exact rfl;apply yz;exact cRa)|apply zb)
   exact qq rfl (qdm rfl) (.inr (h2 rfl))
  ·have hi3:=h1 rfl
   have hb3:=hI _ _ _ hi3
   have hp:=qcf 10 rest
   have hr0:0<rest.length:=List.length_pos_iff.2 h
   have hkb:kb≠S.length:=fun e=>by
    rw [e,hown2] at hb3
    simp at hb3
   repeat' (first|apply qr|apply ql|apply qk|apply qo|(apply jv;exact rfl)|(apply qc;exact rfl;apply qaa;exact cRa)|(apply zx;(iterate 3 exact rfl))|(apply zp;exact rfl;exact rfl;exact qn (by omega) (by omega))|(apply kz;exact rfl;exact rfl;exact qn (by omega) (by omega))|(apply q5;(iterate 3 exact rfl))|apply q8|(apply ya;exact rfl;exact yq hb3 (Ne.symm hkb);exact rfl;exact rfl)|(apply ya;exact rfl;(focus first|assumption|(repeat' (first|assumption|exact qbd|exact qbe rfl|apply xg|apply yq|omega|apply qex)));exact rfl;exact rfl)|(apply qc4;exact rfl;exact rfl;(focus first|assumption|(repeat' (first|assumption|exact qbd|exact qbe rfl|apply xg|apply yq|omega|apply qex)));(iterate 6 exact rfl)))
   have e2:Ext n S2 _:=(qd0 hn (qbw hown2)).trans (qd0 (x:=.cells 0 145 [Iv ((k:Int)+1),Iv ((text.length:Int) - (past 10 rest).length),Sv (upto 10 rest),Bv (decide (10∈rest))]) hn (qbw (xg (y:=.cells 0 145 [Iv ((k:Int)+1),Iv ((text.length:Int) - rest.length),Sv (upto 10 rest),Bv (decide (10∈rest))]) hown2)))
   exact⟨(k+1,past 10 rest),⟨_,_,_,_,hst _ _ _ _ e2 hi3,by omega,rfl,xg (xg hown2),v6 ⟨rfl,rfl,rfl,rfl,trivial⟩⟩,by simp only;omega⟩
 ·have hr:rest=[]:=Classical.not_not.1 h
  subst hr
  exact qq rfl (qdm rfl) (.inl ⟨k,hi⟩)
structure ItC (g:FuncId) (T:TypeId) (cs:List AV) {ι : Type} (Y : ι→Option (AV×ι)) (i0 : ι):Prop where
 run:∀ (o kb n m:Nat) (I : ι→List AObj→Prop) (D:List AObj→Prop) (S:List AObj),S.length=m→n≤m→I i0 S →
  (∀ i S',I i S'→S'[kb]? = some (.cells 0 T cs))→(∀ i S' S'',Ext n S' S''→I i S'→I i S'') →
  (∀ i x j S' (own:List AObj),I i S'→(∀ k y,own[k]? = some y→S'[m+k]? = some y∧qhz (some y))→Y i=some (x,j)→qdj E o [x] S' fun b S''=>(∀ k y,own[k]? = some y→S''[m+k]? = some y)∧(b=true→I j S'')∧(b=false→D S'')) →
  qp E g [.yd o,.bx kb 0 0] S fun r S'=>(∃ i,Y i=none∧I i S')∨D S'
def qmc (text:List UInt8):Nat×List UInt8→Option (AV×(Nat×List UInt8))
 |(k,rest)=>if rest=[]∨text.length<rest.length then none else some (qul k text rest,(k+1,past 10 rest))
theorem q8l (text:List UInt8) (ht:text.length<4294967281):ItC 121 9 [Sv text] (qmc text) (0,text):=⟨fun o kb n m I D S hm hn h0 hI hst hY=>by
 refine (q5q text o kb 0 n m (fun k rest S=>I (k,rest) S∧rest.length≤text.length) D S hm hn ht ⟨h0,Nat.le_refl _⟩ (fun k rest S' h=>hI _ _ h.1) (fun k rest S' S'' hE h=>⟨hst _ _ _ hE h.1,h.2⟩) (fun k rest S' cs hi hown hne hle=>?_)).mono ?_
 ·refine (hY (k,rest) (qul k text rest) (k+1,past 10 rest) S' [.cells 0 145 cs] hi.1 (fun j y hy=>?_) (if_neg fun h=>h.elim hne (by omega))).mono fun b S'' ⟨h1,h2,h3⟩=>⟨by have:=h1 0 _ rfl;simpa using this,fun hb=>⟨h2 hb,by have:=qcf 10 rest;omega⟩,h3⟩
  match j with
  | 0=>
   simp only [List.getElem?_cons_zero,Option.some.injEq] at hy
   subst hy
   exact⟨hown,qbw rfl⟩
  |j+1=>simp at hy
 ·rintro r S' (⟨k,h⟩|h)
  ·exact .inl ⟨(k,[]),by simp [qmc],h.1⟩
  ·exact .inr h⟩
@[reducible] def zcx (n : Nat) (F : LoopState → Option Code → AObj) (own : List AObj) (I : List AObj → Prop) (D : Code → List AObj → Prop) : Exit → AS → Prop
 | .normal,s=>s.st[n]? = some .dfr∧s.st[n+1]? = some (F .busy none)∧(∀ k y,own[k]? = some y→s.st[n+2+k]? = some y)∧I s.st
 | .ret,s=>s.st[n]? = some .dfr∧s.st[n+1]? = some (F .busy none)∧(∀ k y,own[k]? = some y→s.st[n+2+k]? = some y)∧D .ret s.st
 | .exit id,s=>s.st[n]? = some .dfr∧s.st[n+1]? = some (F .busy none)∧(∀ k y,own[k]? = some y→s.st[n+2+k]? = some y)∧D (.exit id) s.st
 | _,_=>False
theorem qh0 {N:Nat} {t:Nat→AV} {ps:Array Tmp} {asg body:Code} {F:LoopState→Option Code→AObj} (hF:quh F N t ps asg body) (ls:LoopState) (pend:Option Code) {x:Option AObj} (h:x=some (F ls pend)):qhz x:=fun n sz T' e=>by
 rw [h,hF] at e
 simp at e
theorem qvl {N:Nat} {Q:Exit→AS→Prop} {s:AS} {f:Operand} {p:Tmp} {asg body:Code} {S0:List AObj} {kb:Nat} {g:FuncId} {T:TypeId} {cs:List AV} {ι : Type} {Y : ι→Option (AV×ι)} {i0 : ι} (hit:ItC g T cs Y i0) (hst:s.st=S0) (hx:qj N s f = .fn (.func g) [] [.bx kb 0 0])
  (hrun:∀ vs w,(callFunc g vs).run E.P w = .ok (.enter g vs) w)
  (I : ι→List AObj→Prop) (D:Code→List AObj→Prop) (h0:I i0 S0)
  (hI:∀ i S,I i S→S[kb]? = some (.cells 0 T cs))
  (hs1:∀ i S S',Ext S0.length S S'→I i S→I i S') (hs2:∀ c S S',Ext S0.length S S'→D c S→D c S')
  (hb:∀ F (own:List AObj) rd i x j S,quh F N s.t #[p] asg body→I i S→Y i=some (x,j)→S[S0.length]? = some .dfr→S[S0.length+1]? = some (F .ready none)→(∀ k y,own[k]? = some y→S[S0.length+2+k]? = some y∧qhz (some y)) →
   AWp E (some rd) N asg (only fun s1=>s1.st[S0.length+1]? = some (F .ready none)∧s1.df=[]∧AWp E (some rd) N body (zcx S0.length F own (I j) D) ⟨s1.t,s1.st.set (S0.length+1) (F .busy none),[]⟩) ⟨put s.t p x,S,[]⟩)
  (hn:∀ i S,Y i=none→I i S→S[S0.length]? = some .dfr→Q .normal ⟨s.t,S,S0.length::s.df⟩)
  (hd:∀ c S,D c S→S[S0.length]? = some .dfr→AWp E none N c Q ⟨s.t,S,S0.length::s.df⟩):AWp E none N (.rangeFunc f #[p] asg body) Q s:=by
 refine q03 (st:=S0) (loc:=[]) (by rw [hst];simp) hx hrun fun F hF=>?_
 have hl:(S0++([]++[AObj.dfr,F .ready none])).length=S0.length+2:=by simp
 have g1:(S0++([]++[AObj.dfr,F .ready none]))[S0.length]? = some .dfr:=by simp
 have g2:(S0++([]++[AObj.dfr,F .ready none]))[S0.length+1]? = some (F .ready none):=by simp
 have hz:S0.length+(([]:List AObj).length+1)=S0.length+1:=by simp
 rw [hz,show S0.length+([]:List AObj).length=S0.length from rfl]
 refine qp.mono (hit.run (S0.length+1) kb (S0.length+2) (S0.length+2) (fun i S=>I i S∧S[S0.length]? = some .dfr∧S[S0.length+1]? = some (F .ready none)) (fun S=>∃ c,D c S∧S[S0.length]? = some .dfr∧S[S0.length+1]? = some (F .done (some c))) (S0++([]++[.dfr,F .ready none])) hl (Nat.le_refl _) ⟨hs1 _ _ _ (qhe (Nat.le_refl _)) h0,g1,g2⟩ (fun i S h=>hI i S h.1) (fun i S S' hE h=>⟨hs1 _ _ _ (hE.weak (by omega)) h.1,(hE.low _ (by omega)).trans h.2.1,(hE.low _ (by omega)).trans h.2.2⟩) ?_) ?_
 ·rintro i x j S' own ⟨hi,hd1,hf1⟩ hown hy
  refine q6j hF hf1 rfl fun rd=>?_
  refine (hb F own rd i x j S' hF hi hy hd1 hf1 hown).mono fun e s1 hq=>?_
  have fin:∀ {S:List AObj} {z:AObj},(∀ k y,own[k]? = some y→S[S0.length+2+k]? = some y)→∀ k y,own[k]? = some y→(S.set (S0.length+1) z)[S0.length+2+k]? = some y:=fun h k y hk=>yq (h k y hk) (by omega)
  cases e with
  |normal=>
   obtain⟨q1,q2,q3⟩:=hq
   refine⟨q1,q2,q3.mono fun e s2 hq2=>?_⟩
   cases e with
   |normal=>
    obtain⟨k1,k2,k3,k4⟩:=hq2
    exact⟨k2,fin k3,fun _=>⟨hs1 _ _ _ (qd0 (by omega) (qh0 hF _ _ k2)) k4,yq k1 (by omega),xg k2⟩,nofun⟩
   |ret=>
    obtain⟨k1,k2,k3,k4⟩:=hq2
    exact⟨k2,fin k3,nofun,fun _=>⟨_,hs2 _ _ _ (qd0 (by omega) (qh0 hF _ _ k2)) k4,yq k1 (by omega),xg k2⟩⟩
   |exit id=>
    obtain⟨k1,k2,k3,k4⟩:=hq2
    exact⟨k2,fin k3,nofun,fun _=>⟨_,hs2 _ _ _ (qd0 (by omega) (qh0 hF _ _ k2)) k4,yq k1 (by omega),xg k2⟩⟩
   | _=>exact hq2.elim
  | _=>exact hq.elim
 ·rintro r S' (⟨i,hy,hi,hd1,hf1⟩ | ⟨c,hi,hd1,hf1⟩)
  ·exact⟨.ready,none,nofun,hf1,hn i _ hy (hs1 _ _ _ (qd0 (by omega) (qh0 hF _ _ hf1)) hi) (yq hd1 (by omega))⟩
  ·exact⟨.done,some c,nofun,hf1,hd c _ (hs2 _ _ _ (qd0 (by omega) (qh0 hF _ _ hf1)) hi) (yq hd1 (by omega))⟩
end Go.Proofs.YtneejjefekdgjaaGreatDoor
namespace Go.Av
open Go Go.RowKit
theorem qo6 {P:Program} {B0:Nat} {w0:World} {G:Gh} {st:List AObj} {w:World} (hA:zl B0 w0 G st w) {tt u ty T:TypeId} {du:TypeDesc} (htt:P.underlying tt=some (.slice T)) (hu:P.underlying u=some du) (hd:qhi du)
  {sz bytes:Nat} (hT:qan P T sz bytes) {t n m:Nat} (ht:st[t]? = some (.tip n sz T)) {xs ys:List AV} {x:Value} (hn:xs.length=n) (hm:ys.length=m)
  {news:List Value} (hx:Src P w x m sz news) (hys:∀ y∈ys,y.cells.length=sz) (hrel:∀ (i:Nat) (a:AV) (b:Value),(flat ys)[i]? = some a→news[i]? = some b→Rel G a b)
  (h63:n+m≤maxLen) (base:Option Addr) (c:Nat) (olds:List Value) (ho:(Builtin.firstCells sz n (.slice base n c)).run P w.drew = .ok olds.toArray w.drew) (hc:c<n+m) (hol:olds.length=n * sz) (hfx:(flat xs).length=n * sz) (hwx:∀ x∈xs,x.cells.length=sz)
  (hrx:∀ (j:Nat) (a:AV) (b:Value),(flat xs)[j]? = some a→olds[j]? = some b→Rel G a b) (hfit:Builtin.nextslicecap (n+m) c * bytes≤281474976710656) (hm0:m≠0) :
  ∃ v' w' G',(Builtin.append_ #[tt,u] ty #[.slice base n c,x]).run P w = .ok v' w'∧G.le G'∧zl B0 w0 G' (st.set t (.tip (n+m) sz T)) w'∧Rel G' (.sl sz (xs++ys) (some t)) v':=by
 obtain⟨i,z,hi,hz,rfl,rfl,hzs⟩:=hT.ex
 obtain⟨hraw,hver,htip⟩:=hA.ob t _ ht
 have htn:t<G.n:=by rw [hA.n];exact lt_of_getElem? ht
 have hlt:G.n=st.length:=hA.n
 have hk:=hA.kill t
 have hkt:(st.set t .dead)[t]? = some .dead:=qcn ht
 have hother:∀ o x,(st.set t .dead)[o]? = some x→x.live→o≠t∧st[o]? = some x:=fun o x hx hl=>by
  rcases getElem?_set' _ _ _ _ _ hx with⟨_,e⟩ | ⟨h1,h2⟩
  ·subst e;exact hl.elim
  ·exact⟨h1,h2⟩
 have hset:(st.set t AObj.dead).set t (.tip (n+m) i.size T)=st.set t (.tip (n+m) i.size T):=by rw [List.set_set]
 have hself:st.set t (.tip n i.size T)=st:=by
  apply List.ext_getElem?
  intro k
  by_cases e:t=k
  ·subst e;rw [List.getElem?_set_self (lt_of_getElem? ht)];exact ht.symm
  ·rw [List.getElem?_set_ne e]
 have hrun:=qfu (ty:=ty) htt hu hd hi hz hx base n c olds ho hc (by simp only [maxLen] at h63;omega) hfit
 have hge:=grownCap_ge w (n+m) c T
 have hle:=grownCap_le_maxLen w (n+m) c T h63
 generalize grownCap w (n+m) c T=cap at hrun hge hle
 have hsz:(olds.toArray++news.toArray++Builtin.zeroCells z.cells (cap - (n+m))).size=cap * i.size:=by
  simp only [Array.size_append,List.size_toArray,size_zeroCells,hzs,hol,hx.count,← Nat.add_mul]
  congr 1
  omega
 generalize hcv:olds.toArray++news.toArray++Builtin.zeroCells z.cells (cap - (n+m))=c' at hrun hsz
 have hdrew:Below w.heap.size w w.drew:=⟨rfl,rfl,rfl,Nat.le_refl _,fun _ _=>rfl⟩
 have hA1:=hk.fresh hdrew
 have hpre:∀ (j:Nat) (y:Value),(olds++news)[j]? = some y→c'[j]? = some y:=fun j y hy=>by
  have hj:=lt_of_getElem? hy
  rw [← hcv,Array.getElem?_append_left (by simp at hj ⊢;omega),List.append_toArray]
  simpa using hy
 obtain⟨hle1,hA2⟩:=hA1.newPub T c' (0,0) (olds++news) hpre
 have hnp:G.pub w.heap.size=none:=by
  cases hp:G.pub w.heap.size with
  |none=>rfl
  |some vs=>exact absurd (hA.pub_lt hp) (Nat.lt_irrefl _)
 obtain⟨hle2,hA3⟩:=hA2.setTip (n':=n+m) (vs:=olds++news) (k:=w.heap.size) (cap:=cap * i.size) (sz:=i.size) (T:=T) hkt (by simpa [Gh.publish] using hraw) (by simpa [Gh.publish] using hver) (by omega) (qar w.drew _) (by simp [Gh.publish]) (by simp [hol,hx.count,Nat.add_mul]) hsz hA.hB (fun o x hx hl=>by
  obtain⟨_,hx'⟩:=hother o x hx hl
  exact Nat.ne_of_lt ((hA.ob o x hx').lt hl))
 rw [hset] at hA3
 refine⟨_,_,_,hrun,hle1.trans hle2,hA3,?_⟩
 have hmono:∀ {a b},Rel G a b→Rel ((G.publish w.drew.heap.size (olds++news)).setOb t ⟨n+m,w.heap.size,cap * i.size,false⟩) a b:=fun h=>(h.mono hle1).mono hle2
 refine qsd (n:=n) (m:=m) (cap:=cap) (k:=w.heap.size) (vs:=olds) (news:=news) (by simp [Gh.setOb]) (by simp [Gh.setOb]) (by simp [Gh.setOb]) hle hge (by simpa [Gh.setOb,Gh.publish] using htn) (by omega) hn hm (by simp [Gh.setOb,Gh.publish]) (fun y hy=>?_) hol hx.count hfx (fun j a b h1 h2=>hmono (hrx j a b h1 h2)) (fun j a b h1 h2=>hmono (hrel j a b h1 h2))
 rcases List.mem_append.1 hy with h|h
 ·exact hwx y h
 ·exact hys y h
def TipO (b:Nat) (st:List AObj) (sz:Nat) (T:TypeId) (xs:List AV) (c:AV):Prop:=TipC b st sz T xs c∨(xs=[]∧∃ o v f,c = .os o v f 0 0)
theorem q8r (b:Nat) (st:List AObj) (sz:Nat) (T:TypeId):TipO b st sz T [] jw:=.inl (q8q ..)
theorem zbd (b:Nat) (st:List AObj) (sz:Nat) (T:TypeId) (o v f:Nat):TipO b st sz T [] (.os o v f 0 0):=.inr ⟨rfl,_,_,_,rfl⟩
theorem zaw {G:Gh} {o v f:Nat} {sz:Nat} {x:Value} (h:Rel G (.os o v f 0 0) x):Rel G (.sl sz [] none) x:=by
 cases h with
 |os _ _ _ _ b _ hn hv h=>exact .sl0 sz none _ _ (by simp)
section
variable {E : Env} {rd : Option Nat} {N : Nat} {ops : Array Oper} {K : AS → Prop} {s : AS} {rest : List Oper} {d : Option Tmp} {T : TypeId} {p : String} {af : Array Edge}
theorem qu6 {x y:Operand} {t u T':TypeId} {sz bytes b:Nat} {xs ys:List AV} {tip:Option Nat} {c:AV} {st:List AObj} (hst:s.st=st) (hx:qj N s x=c) (hy:qj N s y = .sl sz ys tip)
  (ht:E.P.underlying t=some (.slice T')) (hu:E.P.underlying u=some (.slice T')) (hT:qan E.P T' sz bytes) (hc:TipO b st sz T' xs c) (hb:b≤st.length) (hone:wj (flat ys)=true) (h63:xs.length+ys.length≤maxLen) (hby:(xs.length+ys.length) * bytes≤140737488355328)
  (h:∀ c' st' t1,TipO b st' sz T' (xs++ys) c'→Fr st st' t1→b≤t1→(c = .sl sz xs (some t1)∨st.length≤t1)→AOps E rd N ops rest K (AS.put ⟨s.t,st',s.df⟩ d c')):AOps E rd N ops (⟨d,.call ⟨.builtin .append,#[x,y],#[t,u]⟩,T,p,af,none⟩::rest) K s:=by
 rcases hc with hc | ⟨hxs,o,ver,f,hco⟩
 ·refine qu8 hst hx hc hb hy ht hu hT hone h63 hby fun t1 st' g1 g2 g3 g4=>h _ st' t1 (.inl (.inr ⟨t1,rfl,g1,g2⟩)) g3 g2 g4
 ·subst hst
  subst hxs
  refine q7 rfl (qz nofun fun B0 w0 G a w _ hI=>?_)
  have he:=hI.eval_of (hx.trans hco)
  obtain⟨news,k1,k2,k3⟩:=qa2 (P:=E.P) hI.agree (hI.eval_of hy) (by simpa [wj] using hone)
  have hex:=hT.ex
  obtain⟨i,z,hi,hz,hsz,hbt,hzs⟩:=hex
  generalize hv:a.eval x=v at he
  cases he with
  |os _ _ _ _ blk _ hn hvv hbb=>
   by_cases hm0:ys.length=0
   ·have hy0:ys=[]:=List.eq_nil_of_length_eq_zero hm0
    subst hy0
    have hk1':Src E.P w (a.eval y) 0 i.size []:=by
     have:news=[]:=List.eq_nil_of_length_eq_zero (by simpa using k1.count)
     rw [hsz]
     rw [this] at k1
     exact k1
    refine⟨_,w,G,_,s.st,?_,.refl G,hI.agree,.os o ver f 0 blk 0 hn hvv hbb,h _ s.st s.st.length (.inr ⟨rfl,o,ver,f,rfl⟩) ⟨Nat.le_refl _,fun _ _ _=>rfl⟩ hb (.inr (Nat.le_refl _))⟩
    have:=qcr (ty:=T) ht hu (.inr ⟨_,rfl⟩) hi hk1' (some ⟨blk,f,none⟩) 0 0 (Nat.le_refl _)
    generalize a.eval = ρ at hv this
    simp [execOp,resolve,invoke,builtin,hv,this]
   ·have hle:=G.le_new 0 0 0 false
    have hA:=hI.agree.newTip sz T'
    have hz63:0+ys.length≤maxLen:=by simpa using h63
    obtain⟨v',w',G',e1,e2,e3,e4⟩:=qo6 (ty:=T) hA ht hu (.inr ⟨_,rfl⟩) hT (t:=s.st.length) (n:=0) (xs:=[]) (by simp) rfl rfl k1 k2 (fun i a b h1 h2=>(k3 i a b h1 h2).mono hle) hz63 (some ⟨blk,f,none⟩) 0 []
     (run_firstCells_some w.drew sz 0 ⟨blk,f,none⟩ 0 0 [] (by simp) (by simp)) (by omega) (by simp) (by simp [flat]) (by simp) (by simp [flat]) (by rw [Nat.zero_add,nextslicecap_zero (by omega)];have:=hby;simp at this;omega) hm0
    refine⟨v',w',G',_,_,?_,hle.trans e2,e3,e4,h _ _ s.st.length (.inl (.inr ⟨s.st.length,rfl,?_,hb⟩)) ⟨by simp,fun k hk hlt=>?_⟩ hb (.inr (Nat.le_refl _))⟩
    ·generalize a.eval = ρ at e1 hv
     simp [execOp,resolve,invoke,builtin,hv,e1]
    ·simp
    ·rw [List.getElem?_set_ne (Ne.symm hk),List.getElem?_append_left hlt]
end
theorem qff {α : Type} {g : α→AV} {l:List α} (h:∀ a,wj (g a).cells=true):wj (flat (l.map g))=true:=by
 induction l with
 |nil=>rfl
 |cons a r ih=>
  have h1:=h a
  unfold wj flat at *
  rw [List.map_cons,List.flatMap_cons,List.all_append,h1,ih]
  rfl
theorem qxs {b:Nat} {st:List AObj} {sz:Nat} {T:TypeId} {xs:List AV} {c:AV} (h:TipO b st sz T xs c):∀ G v,Rel G c v→Rel G (.sl sz xs none) v:=by
 rcases h with (⟨rfl,rfl⟩ | ⟨t,rfl,_⟩) | ⟨rfl,o,v,f,rfl⟩
 ·exact fun G v h=>qbq h
 ·exact fun G v h=>qit h
 ·exact fun G v h=>zaw h
end Go.Av
namespace Go.Av
open Go Go.RowKit
inductive SrcA (st:List AObj) (sz:Nat):AV→Nat→Nat→List AV→Prop
 |sl (ys:List AV) (tip:Option Nat) (hone:wj (flat ys)=true):SrcA st sz (.sl sz ys tip) ys.length ys.length (flat ys)
 |os (o ver off L cap m:Nat) (T:TypeId) (cs:List AV) (ho:st[o]? = some (.cells ver T cs)) (hfit:off+m * sz≤cs.length) (hone:wj ((cs.drop off).take (m * sz))=true):SrcA st sz (.os o ver off L cap) L m ((cs.drop off).take (m * sz))
structure SrcP (P:Program) (w:World) (x:Value) (L m size:Nat) (news:List Value):Prop where
 len:∀ w',(Builtin.lenOf x).run P w' = .ok L w'
 cells:∀ w',Below w.heap.size w w'→(Builtin.firstCells size m x).run P w' = .ok news.toArray w'
 count:news.length=m * size
 one:∀ u∈news,u.oneCell'=true
section
variable {B0 : Nat} {w0 : World} {G : Gh} {st : List AObj} {w : World}
theorem q0j {P:Program} (hA:zl B0 w0 G st w) {sz L m:Nat} {a:AV} {zs:List AV} {x:Value} (h:SrcA st sz a L m zs) (hr:Rel G a x) :
  ∃ news,SrcP P w x L m sz news∧zs.length=m * sz∧∀ (i:Nat) (a:AV) (b:Value),zs[i]? = some a→news[i]? = some b→Rel G a b:=by
 cases h with
 |sl ys tip hone=>
  obtain⟨news,h1,h2,h3⟩:=qa2 (P:=P) hA hr (by simpa [wj] using hone)
  exact⟨news,⟨h1.len,h1.cells,h1.count,h1.one⟩,jn h2,h3⟩
 |os o ver off _ cap _ T cs ho hfit hone=>
  obtain⟨g0,g1,g2,g3,c,g4,g5,g6⟩:=hA.ob o _ ho
  cases hr with
  |os _ _ _ _ b _ hn hv hb=>
   have hb:=hb g1
   subst hb
   have hget:∀ (j:Nat) (y:Value),((c.toList.drop off).take (m * sz))[j]? = some y→j<m * sz∧c[off+j]? = some y:=fun j y hy=>by
    rw [List.getElem?_take] at hy
    split at hy
    ·rename_i hj
     rw [List.getElem?_drop] at hy
     exact⟨hj,by simpa using hy⟩
    ·simp at hy
   have hnl:((c.toList.drop off).take (m * sz)).length=m * sz:=by
    simp
    omega
   refine⟨(c.toList.drop off).take (m * sz),⟨fun w'=>by simp [Builtin.lenOf],fun w' hw'=>?_,hnl,fun u hu=>?_⟩,by simp;omega,fun i a b h1 h2=>?_⟩
   ·refine run_firstCells_some w' sz m ⟨(G.ob o).blk,off,none⟩ L cap _ hnl fun j y hy=>?_
    obtain⟨hj,hy⟩:=hget j y hy
    have hlt:(G.ob o).blk<w.heap.size:=by
     rcases Nat.lt_or_ge (G.ob o).blk w.heap.size with h'|h'
     ·exact h'
     ·simp [Array.getElem?_eq_none h'] at g4
    have e1:w'.heap[(G.ob o).blk]? = some (.cells c T (0,0)):=by rw [hw'.block _ hlt];exact g4
    rw [Addr.add_lit]
    simp [World.cell?,e1,hy]
   ·obtain⟨j,hj⟩:=List.getElem?_of_mem hu
    obtain⟨h1,h2⟩:=hget j u hj
    have hlc:off+j<cs.length:=by omega
    have hx:cs[off+j]? = some cs[off+j]:=List.getElem?_eq_getElem hlc
    have hz:((cs.drop off).take (m * sz))[j]? = some cs[off+j]:=by rw [List.getElem?_take_of_lt h1,List.getElem?_drop];exact hx
    exact (g6 _ _ u hx h2).one (List.all_eq_true.1 hone _ (List.mem_of_getElem? hz))
   ·obtain⟨h3,h4⟩:=hget i b h2
    rw [List.getElem?_take_of_lt h3,List.getElem?_drop] at h1
    exact g6 _ a b h1 h4
theorem qhk (hA:zl B0 w0 G st w) {o ver off:Nat} {T:TypeId} {cs zs:List AV} {news:List Value} {c:Array Value} (ho:st[o]? = some (.cells ver T cs)) (g4:w.heap[(G.ob o).blk]? = some (.cells c T (0,0))) (hfit:off+zs.length≤cs.length) (hl:zs.length=news.length)
  (hr:∀ (i:Nat) (a:AV) (b:Value),zs[i]? = some a→news[i]? = some b→Rel G a b):zl B0 w0 G (st.set o (.cells ver T (jz cs off zs))) (w.setRow (G.ob o).blk (c.toList.take off++news++c.toList.drop (off+news.length)).toArray):=by
 obtain⟨_,_,_,_,c',h4,g5,g6⟩:=hA.ob o _ ho
 rw [g4] at h4
 simp only [Option.some.injEq,Obj.cells.injEq,and_true] at h4
 subst h4
 refine hA.setRow ho (by simp [jz];omega) ?_
 have e1:∀ (j:Nat) (a:AV) (b:Value),(cs.take off)[j]? = some a→(c.toList.take off)[j]? = some b→Rel G a b:=fun j a b h1 h2=>by
  rw [List.getElem?_take] at h1 h2
  split at h1
  ·rename_i hj
   rw [if_pos hj] at h2
   exact g6 j a b h1 (by simpa using h2)
  ·simp at h1
 have e2:=qbp (G:=G) (cs:=cs.take off) (ds:=zs) (vs:=c.toList.take off) (us:=news) (by simp;omega) e1 hr
 have e3:=qbp (G:=G) (cs:=cs.take off++zs) (ds:=cs.drop (off+zs.length)) (vs:=c.toList.take off++news) (us:=c.toList.drop (off+news.length)) (by simp;omega) e2 (fun j a b h1 h2=>by
  rw [List.getElem?_drop] at h1 h2
  rw [hl] at h1
  exact g6 _ a b h1 (by simpa using h2))
 unfold jz
 intro j a b h1 h2
 exact e3 j a b h1 (by simpa using h2)
end
section
variable {E : Env} {rd : Option Nat} {N : Nat} {ops : Array Oper} {K : AS → Prop} {s : AS} {rest : List Oper} {d : Option Tmp} {T : TypeId} {p : String} {af : Array Edge}
theorem qky {x y:Operand} {t u T':TypeId} {sz bytes o ver n cap m:Nat} {cs zs:List AV} {a:AV} (hx:qj N s x = .os o ver 0 n cap) (hy:qj N s y=a) (ho:s.st[o]? = some (.cells ver T' cs)) (hsrc:SrcA s.st sz a m m zs)
  (ht:E.P.underlying t=some (.slice T')) (hu:E.P.underlying u=some (.slice T')) (hT:qan E.P T' sz bytes) (hroom:n+m≤cap) (hcs:cs.length=cap * sz)
  (h:AOps E rd N ops rest K (AS.put ⟨s.t,s.st.set o (.cells ver T' (jz cs (n * sz) zs)),s.df⟩ d (.os o ver 0 (n+m) cap))):AOps E rd N ops (⟨d,.call ⟨.builtin .append,#[x,y],#[t,u]⟩,T,p,af,none⟩::rest) K s:=by
 refine q7 rfl (qz nofun fun B0 w0 G a0 w _ hI=>?_)
 obtain⟨i,z,hi,hz,rfl,rfl,hzs⟩:=hT.ex
 obtain⟨news,h1,h2,h3⟩:=q0j (P:=E.P) hI.agree hsrc (hI.eval_of hy)
 have hv:=hI.eval_of hx
 generalize hv':a0.eval x=v at hv
 obtain⟨g0,g1,g2,g3,c,g4,g5,g6⟩:=hI.agree.ob o _ ho
 have hmul:n * i.size+m * i.size≤cap * i.size:=by rw [← Nat.add_mul];exact Nat.mul_le_mul_right _ hroom
 cases hv with
 |os _ _ _ _ b _ hn hv hb=>
  have hb:=hb g1
  subst hb
  have hrun:=qh5 (ty:=T) ht hu (.inr ⟨_,rfl⟩) hi ⟨h1.len,h1.cells,h1.count,h1.one⟩ (G.ob o).blk n cap c g4 hroom (by rw [h1.count];omega)
  refine⟨_,_,G,_,_,?_,.refl G,qhk hI.agree ho g4 (by omega) (by rw [h1.count];exact h2) h3,.os o ver 0 (n+m) _ cap hn hv (fun _=>rfl),h⟩
  generalize a0.eval = ρ at hrun hv' ⊢
  simp [execOp,resolve,invoke,builtin,hv',hrun]
theorem qbm {x y:Operand} {t u T':TypeId} {sz bytes o ver off dl dc L m:Nat} {cs zs:List AV} {a:AV} (hx:qj N s x = .os o ver off dl dc) (hy:qj N s y=a) (ho:s.st[o]? = some (.cells ver T' cs)) (hsrc:SrcA s.st sz a L m zs) (hm:Nat.min L dl=m)
  (ht:E.P.underlying t=some (.slice T')) (hT:qan E.P T' sz bytes) (hfit:off+m * sz≤cs.length)
  (h:AOps E rd N ops rest K (AS.put ⟨s.t,s.st.set o (.cells ver T' (jz cs off zs)),s.df⟩ d (Iv (m:Nat)))):AOps E rd N ops (⟨d,.call ⟨.builtin .copy,#[x,y],#[t,u]⟩,T,p,af,none⟩::rest) K s:=by
 refine q7 rfl (qz nofun fun B0 w0 G a0 w _ hI=>?_)
 obtain⟨i,z,hi,hz,rfl,rfl,hzs⟩:=hT.ex
 obtain⟨news,h1,h2,h3⟩:=q0j (P:=E.P) hI.agree hsrc (hI.eval_of hy)
 have hv:=hI.eval_of hx
 generalize hv':a0.eval x=v at hv
 obtain⟨g0,g1,g2,g3,c,g4,g5,g6⟩:=hI.agree.ob o _ ho
 cases hv with
 |os _ _ _ _ b _ hn hv hb=>
  have hb:=hb g1
  subst hb
  have hst:=run_storeCells_at E.P (G.ob o).blk off T' news 0 c w g4 (by rw [h1.count];omega) h1.one
  simp only [Nat.add_zero] at hst
  have hcl:=h1.cells w (Below.refl _ _)
  refine⟨_,_,G,_,_,?_,.refl G,qhk hI.agree ho g4 (by omega) (by rw [h1.count];exact h2) h3,.v _,h⟩
  have hl:=h1.len w
  generalize a0.eval = ρ at hv' hst hcl hl ⊢
  simp [execOp,resolve,invoke,builtin,hv',Builtin.copy_,run_underlying ht,sizeOf,typeInfo,hi,hl,hm,hcl,hst,goInt]
def q0o (P:Program) (T:TypeId):Bool:=
 match P.info? T with
 |some i=>(match i.zero with
  |some z=>z.cells.toList.all Value.oneCell'
  |none=>false)
 |none=>false
theorem qvb {x:Operand} {t T':TypeId} {sz bytes o ver off n cap:Nat} {cs:List AV} (hx:qj N s x = .os o ver off n cap) (ho:s.st[o]? = some (.cells ver T' cs))
  (ht:E.P.underlying t=some (.slice T')) (hT:qan E.P T' sz bytes) (hz1:q0o E.P T'=true) (hfit:off+n * sz≤cs.length)
  (h:∀ zs:List AV,zs.length=n * sz→AOps E rd N ops rest K (AS.put ⟨s.t,s.st.set o (.cells ver T' (jz cs off zs)),s.df⟩ d (.v undef))):AOps E rd N ops (⟨d,.call ⟨.builtin .clear,#[x],#[t]⟩,T,p,af,none⟩::rest) K s:=by
 refine q7 rfl (qz nofun fun B0 w0 G a0 w _ hI=>?_)
 obtain⟨i,z,hi,hz,rfl,rfl,hzs⟩:=hT.ex
 have hv:=hI.eval_of hx
 generalize hv':a0.eval x=v at hv
 obtain⟨g0,g1,g2,g3,c,g4,g5,g6⟩:=hI.agree.ob o _ ho
 cases hv with
 |os _ _ _ _ b _ hn hv hb=>
  have hb:=hb g1
  subst hb
  by_cases h0:n=0
  ·subst h0
   have hself:s.st.set o (.cells ver T' (jz cs off []))=s.st:=by
    have e:jz cs off []=cs:=by simp [jz]
    rw [e]
    apply List.ext_getElem?
    intro k
    by_cases e:o=k
    ·subst e;rw [List.getElem?_set_self (lt_of_getElem? ho)];exact ho.symm
    ·rw [List.getElem?_set_ne e]
   have hh:=h [] (by simp)
   refine⟨_,_,G,_,_,?_,.refl G,hI.agree,.v _,by rw [hself] at hh;exact hh⟩
   generalize a0.eval = ρ at hv' ⊢
   simp [execOp,resolve,invoke,builtin,hv',Builtin.clear_,run_underlying ht,undef]
  ·have hzl:(Builtin.zeroCells z.cells n).toList.length=n * i.size:=by simp [size_zeroCells,hzs]
   have hz1:∀ u∈(Builtin.zeroCells z.cells n).toList,u.oneCell'=true:=fun u hu=>by
    unfold q0o at hz1
    rw [hi] at hz1
    simp only [hz] at hz1
    refine List.all_eq_true.1 hz1 u ?_
    simp only [Builtin.zeroCells,Array.toList_map,List.mem_map,Array.toList_range,List.mem_range] at hu
    obtain⟨q,hq,rfl⟩:=hu
    have hp:q % z.cells.size<z.cells.size:=Nat.mod_lt _ (by
     rcases Nat.eq_zero_or_pos z.cells.size with h|h
     ·rw [h] at hq;omega
     ·exact h)
    rw [getElem!_pos z.cells _ hp]
    simp
   have hst:=run_storeCells_at E.P (G.ob o).blk off T' (Builtin.zeroCells z.cells n).toList 0 c w g4 (by rw [hzl];omega) hz1
   simp only [Nat.add_zero] at hst
   have hh:=h ((Builtin.zeroCells z.cells n).toList.map AV.v) (by simpa using hzl)
   refine⟨_,_,G,_,_,?_,.refl G,qhk (news:=(Builtin.zeroCells z.cells n).toList) hI.agree ho g4 (by rw [List.length_map,hzl];exact hfit) (by simp) (fun j a b h1 h2=>?_),.v _,hh⟩
   ·generalize a0.eval = ρ at hv' hst ⊢
    obtain⟨n',rfl⟩:∃ n',n=n'+1:=⟨n - 1,by omega⟩
    simp [execOp,resolve,invoke,builtin,hv',Builtin.clear_,run_underlying ht,zeroValue,typeInfo,hi,hz,hst,undef]
   ·rw [List.getElem?_map,h2] at h1
    simp at h1
    subst h1
    exact .v _
theorem qqz {P:Program} {t e:TypeId} {sz:Nat} {agg:Bool} (hu:P.underlying t=some (.slice e)) (ht:tyOf P e=some (sz,agg)) (a:Option Addr) (len cap:Nat) (lo hi mx:Option Value) (i j m:Nat) (w:World)
  (hlo:match lo with|none=>i=0|some v=>∃ k,v = .int k (i:Int)) (hhi:match hi with|none=>j=len∧mx=none|some v=>∃ k,v = .int k (j:Int)) (hmx:match mx with|none=>m=cap|some v=>∃ k,v = .int k (m:Int)) (h1:i≤j) (h2:j≤m) (h3:m≤cap) :
  (Instr.slice t (.slice a len cap) lo hi mx).run P w = .ok (.slice (if m=i then a else a.map (·.add (i * sz))) (j - i) (m - i)) w:=by
 have hs:=(xh ht w).1
 cases lo with
 |none=>
  simp only at hlo
  subst hlo
  cases hi with
  |none=>
   obtain⟨rfl,rfl⟩:=hhi
   simp only at hmx
   subst hmx
   simp [Instr.slice,run_underlying hu,Instr.sliceBounds,hs]
  |some v=>
   obtain⟨k,rfl⟩:=hhi
   cases mx with
   |none=>
    simp only at hmx
    subst hmx
    simp [Instr.slice,run_underlying hu,Instr.sliceBounds,Instr.sliceBound,asIntOf,hs,h2]
   |some u=>
    obtain⟨k',rfl⟩:=hmx
    simp [Instr.slice,run_underlying hu,Instr.sliceBounds,Instr.sliceBound,asIntOf,hs,h2,h3]
 |some u=>
  obtain⟨k',rfl⟩:=hlo
  cases hi with
  |none=>
   obtain⟨rfl,rfl⟩:=hhi
   simp only at hmx
   subst hmx
   simp [Instr.slice,run_underlying hu,Instr.sliceBounds,Instr.sliceBound,asIntOf,hs,h1]
  |some v=>
   obtain⟨k,rfl⟩:=hhi
   cases mx with
   |none=>
    simp only at hmx
    subst hmx
    simp [Instr.slice,run_underlying hu,Instr.sliceBounds,Instr.sliceBound,asIntOf,hs,h1,h2]
   |some u=>
    obtain⟨k'',rfl⟩:=hmx
    simp [Instr.slice,run_underlying hu,Instr.sliceBounds,Instr.sliceBound,asIntOf,hs,h1,h2,h3]
theorem js {x:Operand} {t e:TypeId} {lo hi mx:Option Operand} {sz:Nat} {agg:Bool} {o ver off len cap i j m:Nat} (hx:qj N s x = .os o ver off len cap) (hu:E.P.underlying t=some (.slice e)) (ht:tyOf E.P e=some (sz,agg))
  (hlo:match lo with|none=>i=0|some y=>∃ k,qj N s y = .v (.int k (i:Int))) (hhi:match hi with|none=>j=len∧mx=none|some y=>∃ k,qj N s y = .v (.int k (j:Int))) (hmx:match mx with|none=>m=cap|some y=>∃ k,qj N s y = .v (.int k (m:Int))) (h1:i≤j) (h2:j≤m) (h3:m≤cap)
  (h:AOps E rd N ops rest K (s.put d (.os o ver (if m=i then off else off+i * sz) (j - i) (m - i)))):AOps E rd N ops (⟨d,.slice t x lo hi mx,T,p,af,none⟩::rest) K s:=by
 refine q7 rfl (qz nofun fun B0 w0 G a w _ hI=>?_)
 have he:=hI.eval_of hx
 generalize hv:a.eval x=v at he
 cases he with
 |os _ _ _ _ b _ hn hvr hb=>
  have hrun:=qqz hu ht (some ⟨b,off,none⟩) len cap (lo.map a.eval) (hi.map a.eval) (mx.map a.eval) i j m w (by
   cases lo with
   |none=>exact hlo
   |some y=>obtain⟨k,hy⟩:=hlo;exact⟨k,hI.evalv hy⟩) (by
   cases hi with
   |none=>obtain⟨q1,q2⟩:=hhi;subst q2;exact⟨q1,rfl⟩
   |some y=>obtain⟨k,hy⟩:=hhi;exact⟨k,hI.evalv hy⟩) (by
   cases mx with
   |none=>exact hmx
   |some y=>obtain⟨k,hy⟩:=hmx;exact⟨k,hI.evalv hy⟩) h1 h2 h3
  refine⟨.slice (if m=i then some ⟨b,off,none⟩ else (some ⟨b,off,none⟩:Option Addr).map (·.add (i * sz))) (j - i) (m - i),w,G,_,s.st,?_,.refl G,hI.agree,?_,h⟩
  ·generalize a.eval = ρ at hv hrun ⊢
   simp only [execOp,hv]
   simp [Instr.sliceAt,run_underlying hu,hrun]
  ·have hadd:Addr.add ⟨b,off,none⟩ (i * sz)=⟨b,off+i * sz,none⟩:=Addr.add_lit ..
   by_cases hmi:m=i
   ·rw [if_pos hmi,if_pos hmi]
    exact .os o ver off (j - i) b (m - i) hn hvr hb
   ·rw [if_neg hmi,if_neg hmi,Option.map_some,hadd]
    exact .os o ver (off+i * sz) (j - i) b (m - i) hn hvr hb
theorem qhl {x y:Operand} {t u T':TypeId} {sz bytes:Nat} {ys:List AV} (hx:∀ (G:Gh) (v:Value),Rel G (qj N s x) v→∃ base,v = .slice base 0 0) (hy:∀ (G:Gh) (v:Value),Rel G (qj N s y) v→Rel G (.sl sz ys none) v)
  (ht:E.P.underlying t=some (.slice T')) (hu:E.P.underlying u=some (.slice T')) (hT:qan E.P T' sz bytes) (hone:wj (flat ys)=true) (h0:ys≠[]) (h63:ys.length≤maxLen) (hb:ys.length * bytes≤140737488355328)
  (h:∀ cap pad,(flat ys++pad).length=(cap+1) * sz→(∀ y∈ys,y.cells.length=sz)→ys.length≤cap+1→cap+1≤maxLen→AOps E rd N ops rest K (AS.put ⟨s.t,s.st++[.cells 0 T' (flat ys++pad)],s.df⟩ d (.os s.st.length 0 0 ys.length (cap+1)))):AOps E rd N ops (⟨d,.call ⟨.builtin .append,#[x,y],#[t,u]⟩,T,p,af,none⟩::rest) K s:=by
 refine q7 rfl (qz nofun fun B0 w0 G a0 w _ hI=>?_)
 obtain⟨i,z,hi,hz,rfl,rfl,hzs⟩:=hT.ex
 obtain⟨news,h1,h2,h3⟩:=qa2 (P:=E.P) hI.agree (hy _ _ (hI.eval y)) (by simpa [wj] using hone)
 obtain⟨base,hv⟩:=hx _ _ (hI.eval x)
 have hlen:0<ys.length:=List.length_pos_iff.2 h0
 have hold:(Builtin.firstCells i.size 0 (.slice base 0 0)).run E.P w.drew = .ok ([]:List Value).toArray w.drew:=by
  cases base with
  |none=>simp [run_firstCells_none]
  |some a=>exact run_firstCells_some w.drew i.size 0 a 0 0 [] (by simp) (by simp)
 have hrun:=qfu (ty:=T) ht hu (.inr ⟨_,rfl⟩) hi hz h1 base 0 0 [] hold (by omega) (by simp only [maxLen] at h63;omega) (by simp only [Nat.zero_add];rw [nextslicecap_zero (by omega)];omega)
 simp only [Nat.zero_add] at hrun
 have hge:=grownCap_ge w ys.length 0 T'
 have hle:=grownCap_le_maxLen w ys.length 0 T' h63
 generalize grownCap w ys.length 0 T'=cap at hrun hge hle
 obtain⟨cap,rfl⟩:∃ c,cap=c+1:=⟨cap - 1,by omega⟩
 generalize hzc:Builtin.zeroCells z.cells (cap+1 - ys.length)=zc at hrun
 have hzl:zc.size=(cap+1 - ys.length) * i.size:=by rw [← hzc,size_zeroCells,hzs]
 have hfy:(flat ys).length=ys.length * i.size:=jn h2
 have hdrew:Below w.heap.size w w.drew:=⟨rfl,rfl,rfl,Nat.le_refl _,fun _ _=>rfl⟩
 have hr:=qbp (G:=G) (cs:=flat ys) (ds:=zc.toList.map AV.v) (vs:=news) (us:=zc.toList) (by rw [hfy,h1.count]) h3 (fun j a b h1 h2=>by
  rw [List.getElem?_map,h2] at h1
  simp at h1
  subst h1
  exact .v _)
 have hA:=(hI.agree.fresh hdrew).newCells T' (([]:List Value).toArray++news.toArray++zc) (flat ys++zc.toList.map AV.v) (by simp [hfy,h1.count]) (fun j a b q1 q2=>hr j a b q1 (by rw [← q2];simp [← Array.getElem?_toList]))
 have hn:=hI.agree.n
 refine⟨_,_,_,_,_,?_,G.le_new _ _ _ _,hA,.os _ _ _ _ _ _ (by simp [Gh.new,hn]) (Nat.zero_le _) (fun _=>by simp [Gh.new,hn];rfl),h cap (zc.toList.map AV.v) ?_ h2 hge hle⟩
 ·generalize a0.eval = ρ at hrun hv ⊢
  simp [execOp,resolve,invoke,builtin,hv,hrun]
 ·have h1:zc.toList.length=(cap+1 - ys.length) * i.size:=by rw [← hzl];simp
  rw [List.length_append,hfy,List.length_map,h1,← Nat.add_mul]
  congr 1
  omega
theorem qty {x y:Operand} {t u T':TypeId} {sz bytes o:Nat} {xs ys:List AV} {a:AV} {ob:AObj} (hx:qj N s x=a) (hy:∀ (G:Gh) (v:Value),Rel G (qj N s y) v→Rel G (.sl sz ys none) v) (hV:Vec sz T' o xs a ob) (ho:s.st[o]? = some ob)
  (ht:E.P.underlying t=some (.slice T')) (hu:E.P.underlying u=some (.slice T')) (hT:qan E.P T' sz bytes) (hone:wj (flat ys)=true) (h63:xs.length+ys.length≤maxLen) (hb:(xs.length+ys.length) * bytes≤140737488355328)
  (h:∀ a' ob',Vec sz T' o (xs++ys) a' ob'→AOps E rd N ops rest K (AS.put ⟨s.t,s.st.set o ob',s.df⟩ d a')):AOps E rd N ops (⟨d,.call ⟨.builtin .append,#[x,y],#[t,u]⟩,T,p,af,none⟩::rest) K s:=by
 refine q7 rfl (qz nofun fun B0 w0 G a0 w _ hI=>?_)
 obtain⟨news,h1,h2,h3⟩:=qa2 (P:=E.P) hI.agree (hy _ _ (hI.eval y)) (by simpa [wj] using hone)
 obtain⟨v',w',G',a',ob',e1,e2,e3,e4,e5⟩:=qkx (ty:=T) hI.agree ht hu (.inr ⟨_,rfl⟩) hT hV ho (hI.eval_of hx) h1 h2 h3 h63 hb
 refine⟨v',w',G',_,_,?_,e2,e3,e4,h a' ob' e5⟩
 generalize a0.eval = ρ at e1
 simp [execOp,resolve,invoke,builtin,e1]
theorem qu5 {x y:Operand} {t u T':TypeId} {sz bytes:Nat} {c:AV} (hx:qj N s x=c) (hc:∀ G v,Rel G c v→∃ b n cp,v = .slice b n cp∧n≤cp) (hy:∀ (G:Gh) (v:Value),Rel G (qj N s y) v→Rel G (.sl sz [] none) v)
  (ht:E.P.underlying t=some (.slice T')) (hu:E.P.underlying u=some (.slice T')) (hT:qan E.P T' sz bytes) (h:AOps E rd N ops rest K (s.put d c)):AOps E rd N ops (⟨d,.call ⟨.builtin .append,#[x,y],#[t,u]⟩,T,p,af,none⟩::rest) K s:=by
 refine q7 rfl (qz nofun fun B0 w0 G a0 w _ hI=>?_)
 obtain⟨i,z,hi,hz,rfl,rfl,hzs⟩:=hT.ex
 obtain⟨news,h1,h2,h3⟩:=qa2 (P:=E.P) hI.agree (hy _ _ (hI.eval y)) (by simp [flat])
 have hn0:news=[]:=List.eq_nil_of_length_eq_zero (by simpa using h1.count)
 subst hn0
 have hv:=hI.eval_of hx
 obtain⟨b,n,cp,hv2,hle⟩:=hc _ _ hv
 have hrun:=qcr (ty:=T) ht hu (.inr ⟨_,rfl⟩) hi h1 b n cp hle
 refine⟨_,w,G,c,s.st,?_,.refl G,hI.agree,hv,h⟩
 rw [hv2]
 generalize a0.eval = ρ at hrun hv2
 simp [execOp,resolve,invoke,builtin,hv2,hrun]
end
end Go.Av
namespace Go.Av
open Go Go.RowKit
theorem qot {P:Program} (w:World) (tS tR e:TypeId) (ht:P.underlying tS=some (.slice e)) (size:Nat) (hz:∀ w,(Go.sizeOf e).run P w = .ok size w)
  (a b:Addr) (la ca lb cb:Nat) (hne:a.block≠b.block) (tA tB:TypeId) (kA kB:Nat)
  (hsa:w.shape? a.block=some (tA,kA)) (hsb:w.shape? b.block=some (tB,kB)) (hkA:kA≠0)
  (hfb:w.frozen? b=false) (hfe:w.frozen? { block:=b.block,off:=kB }=false) :
  (Extern.SlicesOverlaps.overlaps #[tS,tS] #[tR] #[.slice (some a) la ca,.slice (some b) lb cb]).run P w = .ok (.bool false) w:=by
 have hnb:(a.block != b.block)=true:=by simpa using hne
 have hnb':(a.block == b.block)=false:=by simpa using hne
 change Sem.run P (α:=Value) (do
  let some t := (#[tS, tS] : Array TypeId)[0]? | stuck "slices.overlaps: no parameter types"
  let .slice elem ← underlying t | stuck "slices.overlaps: slice type expected"
  let size ← sizeOf elem
  match (some a:Option Addr),(some b:Option Addr) with
  |some a,some b=>
   if la=0∨lb=0∨size=0 then pure (Value.bool false)
   else if a.block != b.block && (← frozen a) && (← frozen b) then unsupported .addressObserved
   else do
    if a.block != b.block then do
     noView a;noView b
     if ← mayBeOne a b then return Value.bool ((← choose (.extern "sameAddr.stringBytes" 2)) == 1)
    pure (Value.bool (a.block == b.block && a.off<b.off+lb * size && b.off<a.off+la * size))
  | _,_=>pure (Value.bool false)) w=_
 by_cases h0:la=0∨lb=0∨size=0
 ·simp [run_underlying ht,hz,h0]
 ·cases kA with
  |zero=>exact absurd rfl hkA
  |succ kA=>
   cases hA:w.frozen? a <;> cases hA2:w.frozen? { block:=a.block,off:=kA+1 } <;>
    simp [run_underlying ht,hz,h0,hnb,hnb',frozen,noView,viewAt,mayBeOne,stringish,shape,Sem.run,hsa,hsb,hfb,hfe,hA,hA2]
section
variable {E : Env} {rd : Option Nat} {N : Nat} {ops : Array Oper} {K : AS → Prop} {s : AS} {rest : List Oper} {d : Option Tmp} {T : TypeId} {p : String} {af : Array Edge}
theorem qpa {x:Operand} {t0 e:TypeId} {ts:Array TypeId} {o ver off len cap:Nat} (hx:qj N s x = .os o ver off len cap) (ht:ts[0]? = some t0) (hu:E.P.underlying t0=some (.slice e))
  (h:AOps E rd N ops rest K (s.put d (Iv cap))):AOps E rd N ops (⟨d,.call ⟨.builtin .cap,#[x],ts⟩,T,p,af,none⟩::rest) K s:=by
 refine q7 rfl (qz nofun fun B0 w0 G a w _ hI=>?_)
 have he:=hI.eval_of hx
 generalize hv:a.eval x=v at he
 cases he with
 |os _ _ _ _ b _ hn hvr hb=>
  refine⟨_,w,G,_,s.st,?_,.refl G,hI.agree,.v _,h⟩
  generalize a.eval = ρ at hv ⊢
  simp [execOp,resolve,invoke,builtin,hv,Builtin.cap_,ht,run_underlying hu,goInt]
theorem qnw {x y:Operand} {t u T':TypeId} {kn:IntKind} {sz bytes o ver n cap k:Nat} {cs:List AV} (hx:qj N s x = .os o ver 0 n cap) (hy:qj N s y=Iv (k:Nat)) (ho:s.st[o]? = some (.cells ver T' cs))
  (ht:E.P.underlying t=some (.slice T')) (hu:E.P.underlying u=some (.int kn)) (hT:qan E.P T' sz bytes) (hcap:cap<n+k) (hk:0<k) (hsz:0<sz) (hfit:n * sz≤cs.length) (h63:n+k≤maxLen) (hb:(n+k) * bytes≤140737488355328)
  (h:∀ cap' (zs:List AV),zs.length=(cap' - n) * sz→n+k≤cap'→cap'≤maxLen→AOps E rd N ops rest K (AS.put ⟨s.t,s.st++[.cells 0 T' (cs.take (n * sz)++zs)],s.df⟩ d (.os s.st.length 0 0 (n+k) cap'))):AOps E rd N ops (⟨d,.call ⟨.builtin .append,#[x,y],#[t,u]⟩,T,p,af,none⟩::rest) K s:=by
 refine q7 rfl (qz nofun fun B0 w0 G a0 w _ hI=>?_)
 obtain⟨i,z,hi,hz,rfl,rfl,hzs⟩:=hT.ex
 have hyv:=hI.evalv hy
 have hv:=hI.eval_of hx
 generalize hv':a0.eval x=v at hv
 obtain⟨g0,g1,g2,g3,c,g4,g5,g6⟩:=hI.agree.ob o _ ho
 cases hv with
 |os _ _ _ _ b _ hn hv hbk=>
  have hbk:=hbk g1
  subst hbk
  have hold:(Builtin.firstCells i.size n (.slice (some ⟨(G.ob o).blk,0,none⟩) n cap)).run E.P w.drew = .ok (c.toList.take (n * i.size)).toArray w.drew:=by
   refine run_firstCells_some w.drew i.size n ⟨(G.ob o).blk,0,none⟩ n cap _ (by simp;omega) fun j y hy=>?_
   have e1':w.drew.heap[(G.ob o).blk]? = some (.cells c T' (0,0)):=g4
   rw [Addr.add_lit]
   rw [List.getElem?_take] at hy
   split at hy
   ·simp only [Array.getElem?_toList] at hy
    simp [World.cell?,e1',hy]
   ·simp at hy
  have hkb:k * i.bytes≤(n+k) * i.bytes:=Nat.mul_le_mul_right _ (by omega)
  have hrun:=Lib.run_append_grow_zeros w t u T T' i z .i64 kn ht hu hi hz (some ⟨(G.ob o).blk,0,none⟩) n cap _ hold k hk hsz hcap (by simp only [maxLen] at h63;omega) (by omega) (growslice_fits (by omega) hb)
  have hge:=grownCap_ge w (n+k) cap T'
  have hle:=grownCap_le_maxLen w (n+k) cap T' h63
  generalize grownCap w (n+k) cap T'=cap' at hrun hge hle
  have hzl:(Builtin.zeroCells z.cells k).size=k * i.size:=by rw [size_zeroCells,hzs]
  have hzl2:(Builtin.zeroCells z.cells (cap' - (n+k))).size=(cap' - (n+k)) * i.size:=by rw [size_zeroCells,hzs]
  generalize Builtin.zeroCells z.cells k=zc at hrun hzl
  generalize Builtin.zeroCells z.cells (cap' - (n+k))=zd at hrun hzl2
  have hdrew:Below w.heap.size w w.drew:=⟨rfl,rfl,rfl,Nat.le_refl _,fun _ _=>rfl⟩
  have e1:∀ (j:Nat) (a:AV) (b:Value),(cs.take (n * i.size))[j]? = some a→(c.toList.take (n * i.size))[j]? = some b→Rel G a b:=fun j a b h1 h2=>by
   rw [List.getElem?_take] at h1 h2
   split at h1
   ·rename_i hj
    rw [if_pos hj] at h2
    exact g6 j a b h1 (by simpa using h2)
   ·simp at h1
  have hr:=qbp (G:=G) (cs:=cs.take (n * i.size)) (ds:=(zc.toList++zd.toList).map AV.v) (vs:=c.toList.take (n * i.size)) (us:=zc.toList++zd.toList) (by simp;omega) e1 (fun j a b h1 h2=>by
   rw [List.getElem?_map,h2] at h1
   simp at h1
   subst h1
   exact .v _)
  have hA:=(hI.agree.fresh hdrew).newCells T' ((c.toList.take (n * i.size)).toArray++zc++zd) (cs.take (n * i.size)++(zc.toList++zd.toList).map AV.v) (by simp;omega) (fun j a b q1 q2=>hr j a b q1 (by rw [← q2];simp [← Array.getElem?_toList]))
  have hn:=hI.agree.n
  refine⟨_,_,_,_,_,?_,G.le_new _ _ _ _,hA,.os _ _ _ _ _ _ (by simp [Gh.new,hn]) (Nat.zero_le _) (fun _=>by simp [Gh.new,hn];rfl),h cap' _ ?_ hge hle⟩
  ·generalize a0.eval = ρ at hrun hv' hyv ⊢
   simp [execOp,resolve,invoke,builtin,hv',hyv,hrun]
  ·have h1:zc.toList.length=k * i.size:=by rw [← hzl];simp
   have h2:zd.toList.length=(cap' - (n+k)) * i.size:=by rw [← hzl2];simp
   rw [List.length_map,List.length_append,h1,h2,← Nat.add_mul]
   congr 1
   omega
theorem qt0 {f:FuncId} {x y:Operand} {ts:Array TypeId} {T':TypeId} {sz o ver off n c:Nat} {xs cs:List AV} {tip:Option Nat} (hx:qj N s x = .sl sz xs tip) (hy:qj N s y = .os o ver off n c) (ho:s.st[o]? = some (.cells ver T' cs)) (hxs:flat xs≠[])
  (hrun:∀ (w:World) (a b:Addr) (la ca lb cb:Nat) (tA tB:TypeId) (kA kB:Nat),a.block≠b.block→w.shape? a.block=some (tA,kA)→w.shape? b.block=some (tB,kB)→kA≠0→w.frozen? b=false→w.frozen? { block:=b.block,off:=kB }=false→(callFunc f #[.slice (some a) la ca,.slice (some b) lb cb]).run E.P w = .ok (.value (.bool false)) w)
  (h:AOps E rd N ops rest K (s.put d (Bv false))):AOps E rd N ops (⟨d,.call ⟨.value (.func f),#[x,y],ts⟩,T,p,af,none⟩::rest) K s:=by
 refine q7 rfl (qz nofun fun B0 w0 G a w _ hI=>?_)
 have h1:=hI.eval_of hx
 have h2:=hI.eval_of hy
 generalize hvx:a.eval x=v at h1
 generalize hvy:a.eval y=u at h2
 obtain⟨g0,g1,g2,g3,cc,g4,g5,g6⟩:=hI.agree.ob o _ ho
 cases h1 with
 |sl0=>exact absurd rfl hxs
 |sl _ _ _ b off2 cap pub hp hw hlen hr hto hcap0=>
  cases h2 with
  |os _ _ _ _ b2 _ hn hv hb=>
   have hb:=hb g1
   subst hb
   obtain⟨c2,T2,fz,q1,q2⟩:=hI.agree.pub b pub hp
   have hne:b≠(G.ob o).blk:=fun e=>by rw [e,g3] at hp;simp at hp
   have hc2:c2.size≠0:=fun e=>by
    have h0:0<(flat xs).length:=List.length_pos_iff.2 hxs
    have h3:pub[off2]? = some pub[off2]:=List.getElem?_eq_getElem (by omega)
    have:=q2 off2 _ h3
    rw [Array.getElem?_eq_none (by omega)] at this
    simp at this
   have hq:=hrun w ⟨b,off2,none⟩ ⟨(G.ob o).blk,off,none⟩ xs.length cap n c T2 T' c2.size cc.size hne (by simp [World.shape?,q1]) (by simp [World.shape?,g4]) hc2 (by simp [World.frozen?,g4]) (by simp [World.frozen?,g4])
   refine⟨_,w,G,_,s.st,?_,.refl G,hI.agree,.v _,h⟩
   have he:a.eval (.func f) = .func (.func f) #[] #[]:=rfl
   generalize a.eval = ρ at he hvx hvy ⊢
   simp [execOp,resolve,Deferred.ofValue,he,invoke,hvx,hvy,hq]
theorem qvg {x y:Operand} {t e:TypeId} {sz:Nat} {agg:Bool} {c:AV} (hx:qj N s x=c) (hc:∀ (G:Gh) (v:Value),Rel G c v→∃ base,v = .slice base 0 0) (hu:E.P.underlying t=some (.slice e)) (ht:tyOf E.P e=some (sz,agg)) (hy:∃ k,qj N s y = .v (.int k 0))
  (h:AOps E rd N ops rest K (s.put d c)):AOps E rd N ops (⟨d,.slice t x (some y) none none,T,p,af,none⟩::rest) K s:=by
 refine q7 rfl (qz nofun fun B0 w0 G a w _ hI=>?_)
 have he:=hI.eval_of hx
 obtain⟨base,hv⟩:=hc _ _ he
 have hrun:=qqz hu ht base 0 0 (some (a.eval y)) none none 0 0 0 w (by obtain⟨k,hy⟩:=hy;exact⟨k,hI.evalv hy⟩) ⟨rfl,rfl⟩ rfl (Nat.le_refl _) (Nat.le_refl _) (Nat.le_refl _)
 refine⟨.slice base 0 0,w,G,c,s.st,?_,.refl G,hI.agree,by rw [← hv];exact he,h⟩
 generalize a.eval = ρ at hv hrun ⊢
 simp only [execOp,hv]
 simp [Instr.sliceAt,run_underlying hu,hrun]
theorem qpd {l:List Oper} (L:List (Nat×AV)) (st':List AObj) (df':List Nat) (h:HasL s.t L) (hst:s.st=st') (hdf:s.df=df') (k:∀ t,AOps E rd N ops l K ⟨puts t L,st',df'⟩):AOps E rd N ops l K s:=by
 have:=k s.t
 rw [qhg h,← hst,← hdf] at this
 exact this
end
end Go.Av
namespace Go.Av
open Go Go.RowKit
def qe7 (o:Oper):Bool:=match o.op with
 | .defer _=>false
 | _=>true
theorem qqh {o:Oper} (h:qe7 o=true):∀ c,o.op≠.defer c:=fun c e=>by
 unfold qe7 at h
 rw [e] at h
 simp at h
theorem q55 {P:Program} {ops:Array Oper} {Q:Exit→Act→World→Prop} {l i:Nat} {K:Act→World→Prop} {a:Act} {w:World} (hnd:∀ o,ops[i]? = some o→qe7 o=true) (h:wpOpIn (fw none) 0 P ops Q i K a w):wpOpIn (fw (some l)) 0 P ops Q i K a w:=by
 unfold wpOpIn at *
 cases ho:ops[i]? with
 |none=>simp only [ho] at h ⊢;exact h
 |some o=>
  simp only [ho] at h ⊢
  split
  ·rename_i hw
   rw [if_pos hw] at h
   unfold Oper.wpIn at *
   rw [qe0 (rd:=none) (qqh (hnd o ho))] at h
   rw [qe0 (rd:=some l) (qqh (hnd o ho))]
   exact h
  ·rename_i hw
   rw [if_neg hw] at h
   exact h
theorem qq8 {P:Program} {ops:Array Oper} {Q:Exit→Act→World→Prop} {l:Nat} {md:Region.Mode} (hnd:ops.all qe7=true):∀ (fuel:Nat) (listed:Array Bool) (a:Act) (w:World),wpAnyIn (fw none) 0 P md ops Q fuel listed a w→wpAnyIn (fw (some l)) 0 P md ops Q fuel listed a w
 | 0,_,_,_,h=>h
 |fuel+1,listed,a,w,h=>⟨h.1,fun i hi=>q55 (fun o ho=>by
   rw [Array.all_eq_true] at hnd
   obtain⟨h1,h2⟩:=Array.getElem?_eq_some_iff.1 ho
   rw [← h2]
   exact hnd i h1) (wpOpIn_mono (fun a w=>qq8 hnd fuel _ a w) (h.2 i hi))⟩
theorem q02 {E:Env} {rd:Option Nat} {N:Nat} {ops:Array Oper} {s:AS} {id:Nat} {Q:Exit→AS→Prop} {n:Nat} (hm:E.P.follows .mixedOrders=true) (hd:ops.all qe7=true) (hn:ops.size=n) (h:AZ E N ops n (Array.replicate n false) (Q .normal) s):AWp E rd N (.region id ops true) Q s:=by
 cases rd with
 |none=>exact qid hm hn h
 |some l=>
  subst hn
  refine⟨fun B0 w0 G a w hL hI=>?_⟩
  have hBl:Below w.heap.size w { w with drawn:=w.drawn+1 }:=⟨rfl,rfl,rfl,Nat.le_refl _,fun _ _=>rfl⟩
  have hI2:Inv B0 w0 N G s a { w with drawn:=w.drawn+1 }:=⟨hI.agree.fresh hBl,hI.defers,hI.size,hI.tmps⟩
  have:=h.run B0 w0 G a _ hL hI2 (fun a' w'=>∃ (G':Gh) (s':AS),G.le G'∧Inv B0 w0 N G' s' a' w'∧Q .normal s') fun G' s' a' w' hG hI' hk=>⟨G',s',hG,hI',hk⟩
  refine wpIn_mono (wpIn_region_any hm (qq8 hd _ _ _ _ this)) fun e a' w' hq=>?_
  cases e with
  |normal=>exact hq
  | _=>exact hq.elim
def qde (o:Oper):List Nat:=(o.after.toList.filter fun e=>Region.binds .any e).map (·.on)
def addL (L:Nat→Bool) (i:Nat):Nat→Bool:=fun k=>Nat.beq k i ||L k
def qgg:Nat→List Oper→Bool
 | _,[]=>true
 |i,o::r=>(qde o).all (fun j=>Nat.blt j i) && qgg (i+1) r
def qk8 (E:Env) (N:Nat) (ops:Array Oper) (J:(Nat→Bool)→AS→Prop):Nat→List Oper→Prop
 | _,[]=>True
 |i,o::r=>(∀ L s,L i=false→(∀ j,(qde o).contains j=true→L j=true)→J L s→AOps E none N ops [o] (J (addL L i)) s)∧qk8 E N ops J (i+1) r
theorem qq2 {E:Env} {N:Nat} {ops:Array Oper} {J:(Nat→Bool)→AS→Prop}:∀ {l:List Oper} {i0 k:Nat} {o:Oper},qk8 E N ops J i0 l→l[k]? = some o →
  ∀ L s,L (i0+k)=false→(∀ j,(qde o).contains j=true→L j=true)→J L s→AOps E none N ops [o] (J (addL L (i0+k))) s
 | [],_,_,_,_,h=>by simp at h
 |o'::r,i0,0,o,hs,h=>by
  simp only [List.getElem?_cons_zero,Option.some.injEq] at h
  subst h
  exact hs.1
 |o'::r,i0,k+1,o,hs,h=>by
  have:=qq2 hs.2 (by simpa using h)
  rw [show i0+1+k=i0+(k+1) by omega] at this
  exact this
theorem qpt:∀ {l:List Oper} {i0 k:Nat} {o:Oper},qgg i0 l=true→l[k]? = some o→∀ j∈qde o,j<i0+k
 | [],_,_,_,_,h=>by simp at h
 |o'::r,i0,0,o,hs,h=>by
  simp only [List.getElem?_cons_zero,Option.some.injEq] at h
  subst h
  simp only [qgg,Bool.and_eq_true] at hs
  intro j hj
  have:=List.all_eq_true.1 hs.1 j hj
  simpa [Nat.blt_eq] using this
 |o'::r,i0,k+1,o,hs,h=>by
  simp only [qgg,Bool.and_eq_true] at hs
  have:=qpt hs.2 (show r[k]? = some o by simpa using h)
  intro j hj
  have:=this j hj
  omega
def lof (listed:Array Bool):Nat→Bool:=fun k=>listed.getD k false
theorem zaf {listed:Array Bool} {i:Nat} (hi:i<listed.size):lof (listed.setIfInBounds i true)=addL (lof listed) i:=by
 funext k
 unfold lof addL
 by_cases h:k=i
 ·subst h
  simp [Array.getD,hi]
 ·have hb:Nat.beq k i=false:=wb h
  rw [hb,Bool.false_or]
  simp only [Array.getD_eq_getD_getElem?,Array.getElem?_setIfInBounds]
  rw [if_neg (fun e=>h e.symm)]
theorem qsr:∀ {l:List Bool} {i:Nat},l[i]? = some false→(l.set i true).count false+1=l.count false
 | [],_,h=>by simp at h
 |b::l,0,h=>by
  simp only [List.getElem?_cons_zero,Option.some.injEq] at h
  subst h
  simp
 |b::l,i+1,h=>by
  have:=qsr (l:=l) (i:=i) (by simpa using h)
  rw [List.set_cons_succ,List.count_cons,List.count_cons]
  omega
theorem ql5 {l:List Oper} {listed:Array Bool} {i:Nat}:i∈Region.ready .any l.toArray listed↔listed.getD i true=false∧∃ o,l[i]? = some o∧∀ j∈qde o,lof listed j=true:=by
 unfold Region.ready
 simp only [List.mem_filter,List.mem_range,Bool.and_eq_true,Bool.not_eq_true',List.size_toArray,List.getElem?_toArray]
 constructor
 ·rintro⟨h1,h2,h3⟩
  refine⟨h2,l[i],List.getElem?_eq_getElem h1,fun j hj=>?_⟩
  rw [List.getElem?_eq_getElem h1] at h3
  simp only [Option.map_some,Option.getD_some] at h3
  unfold qde at hj
  obtain⟨e,he,rfl⟩:=List.mem_map.1 hj
  obtain⟨he1,he2⟩:=List.mem_filter.1 he
  have:=Array.all_eq_true'.1 h3 e (by simpa using he1)
  rw [he2] at this
  simpa [lof] using this
 ·rintro⟨h2,o,ho,h3⟩
  refine⟨lt_of_getElem? ho,h2,?_⟩
  rw [ho]
  simp only [Option.map_some,Option.getD_some]
  rw [Array.all_eq_true']
  intro e he
  cases hb:Region.binds .any e with
  |false=>rfl
  |true=>
   have:=h3 e.on (by
    unfold qde
    exact List.mem_map.2 ⟨e,List.mem_filter.2 ⟨by simpa using he,hb⟩,rfl⟩)
   simpa [lof] using this
theorem qu0 {P:Nat→Prop}:∀ {l:List Nat},(∀ i∈l,P i)→que P l
 | [],_=>trivial
 |i::r,h=>⟨h i (by simp),qu0 fun j hj=>h j (by simp [hj])⟩
theorem AOps.mono' {E:Env} {rd:Option Nat} {N:Nat} {ops:Array Oper} {K K':AS→Prop} {s:AS} {l:List Oper} (h:AOps E rd N ops l K' s) (hk:∀ s,K' s→K s):AOps E rd N ops l K s:=
 ⟨fun B0 w0 G a w hL hI Q hQ=>h.run B0 w0 G a w hL hI Q fun G' s' a' w' hG hI' hK=>hQ G' s' a' w' hG hI' (hk _ hK)⟩
theorem az_J {E:Env} {N:Nat} {l:List Oper} {J:(Nat→Bool)→AS→Prop} {K:AS→Prop} (hd:qgg 0 l=true) (hs:qk8 E N l.toArray J 0 l) (hend:∀ L s,(∀ i,i<l.length→L i=true)→J L s→K s) :
  ∀ (fuel:Nat) (listed:Array Bool) (s:AS),listed.size=l.length→listed.toList.count false≤fuel→J (lof listed) s→AZ E N l.toArray fuel listed K s:=by
 intro fuel
 induction fuel with
 |zero=>
  intro listed s hsz hc hJ
  have hall:∀ i,i<l.length→lof listed i=true:=fun i hi=>by
   have h0:listed.toList.count false=0:=by omega
   have hi':i<listed.size:=by omega
   have hlo:lof listed i=listed[i]:=by simp [lof,hi']
   rw [hlo]
   cases hb:listed[i] with
   |true=>rfl
   |false=>exact absurd (by rw [← hb];simp) (List.count_eq_zero.1 h0)
  have hr:Region.ready .any l.toArray listed=[]:=by
   rw [List.eq_nil_iff_forall_not_mem]
   intro i hi
   obtain⟨h1,o,ho,_⟩:=ql5.1 hi
   have hi':=lt_of_getElem? ho
   have:=hall i hi'
   unfold lof at this
   have hi2:i<listed.size:=by omega
   simp only [Array.getD,hi2,dite_true] at this h1
   rw [this] at h1
   simp at h1
  exact qc5 hr (hend _ s hall hJ)
 |succ fuel ih=>
  intro listed s hsz hc hJ
  by_cases hr:Region.ready .any l.toArray listed=[]
  ·refine qc5 hr (hend _ s (fun i=>?_) hJ)
   induction i using Nat.strongRecOn with
   | _ i ihi=>
    intro hi
    cases hb:lof listed i with
    |true=>rfl
    |false=>
     exfalso
     have hm:i∈Region.ready .any l.toArray listed:=by
      refine ql5.2 ⟨?_,l[i],List.getElem?_eq_getElem hi,fun j hj=>?_⟩
      ·have hi2:i<listed.size:=by omega
       unfold lof at hb
       simp only [Array.getD,hi2,dite_true] at hb ⊢
       exact hb
      ·have:=qpt hd (List.getElem?_eq_getElem hi) j hj
       exact ihi j (by omega) (by omega)
     rw [hr] at hm
     simp at hm
  ·refine yx _ rfl ?_ (qu0 fun i hi=>?_)
   ·cases h:Region.ready .any l.toArray listed with
    |nil=>exact absurd h hr
    |cons a r=>rfl
   ·obtain⟨h1,o,ho,h3⟩:=ql5.1 hi
    have hil:=lt_of_getElem? ho
    have hi2:i<listed.size:=by omega
    refine⟨o,by simpa using ho,?_⟩
    have hl:lof listed i=false:=by
     unfold lof
     simp only [Array.getD,hi2,dite_true] at h1 ⊢
     exact h1
    have:=qq2 hs ho (lof listed) s (by rw [Nat.zero_add];exact hl) (fun j hj=>h3 j (by simpa using hj)) hJ
    rw [Nat.zero_add] at this
    refine this.mono' fun s' hJ'=>ih _ s' (by simpa using hsz) ?_ (by rw [zaf hi2];exact hJ')
    have hg:listed.toList[i]? = some false:=by
     have:listed[i]=false:=by
      simp only [Array.getD,hi2,dite_true] at h1
      exact h1
     simp [hi2,this]
    have:=qsr hg
    rw [Array.toList_setIfInBounds]
    omega
theorem q3g {E:Env} {rd:Option Nat} {N:Nat} {s:AS} {id:Nat} {l:List Oper} {Q:Exit→AS→Prop} (hm:E.P.follows .mixedOrders=true) (hnd:l.toArray.all qe7=true) (hd:qgg 0 l=true) (J:(Nat→Bool)→AS→Prop)
  (h0:J (fun _=>false) s) (hend:∀ L s,(∀ i,i<l.length→L i=true)→J L s→Q .normal s) (hs:qk8 E N l.toArray J 0 l):AWp E rd N (.region id l.toArray true) Q s:=by
 refine q02 hm hnd (n:=l.length) (by simp) (az_J hd hs hend _ _ _ (by simp) ?_ ?_)
 ·simp only [Array.toList_replicate,List.count_replicate]
  split <;> omega
 ·have:lof (Array.replicate l.length false)=fun _=>false:=by
   funext k
   unfold lof
   simp only [Array.getD_eq_getD_getElem?,Array.getElem?_replicate]
   split <;> rfl
  rw [this]
  exact h0
inductive SV where
 |a (x:AV)
 |i (n:Int)
 |s (l:List UInt8)
 |tt
 |ff
 |b (c:Bool)
 |p (q:Prop) (h:Decidable q)
 |bx (k off:Nat)
 |tp (k:Nat)
 |ag (cs:List SV)
 |tu (cs:List SV)
 |fn (f:Fn) (xs ys:List SV)
 |ifc (t:TypeId) (x:SV)
def bxAt:AV→Nat→AV
 | .bx o v _,off=>.bx o v off
 | .os o v _ _ _,off=>.bx o v off
 | _,off=>.bx 0 0 off
def tpAt (x:AV):AV:=bif x.one then x else Bv false
mutual
def SV.ev (ρ : Nat→AV):SV→AV
 | .a x=>x
 | .i n=>Iv n
 | .s l=>Sv l
 | .tt=>Bv true
 | .ff=>Bv false
 | .b c=>Bv c
 | .p q h=>Bv (@decide q h)
 | .bx k off=>bxAt (ρ k) off
 | .tp k=>tpAt (ρ k)
 | .ag cs=>.ag (SV.evs ρ cs)
 | .tu cs=>.tu (SV.evs ρ cs)
 | .fn f xs ys=>.fn f (SV.evs ρ xs) (SV.evs ρ ys)
 | .ifc t x=>.ifc t (SV.ev ρ x)
def SV.evs (ρ : Nat→AV):List SV→List AV
 | []=>[]
 |x::r=>SV.ev ρ x::SV.evs ρ r
end
mutual
def SV.all (f:Nat→Bool):SV→Bool
 | .bx k _=>f k
 | .tp k=>f k
 | .ag cs=>SV.alls f cs
 | .tu cs=>SV.alls f cs
 | .fn _ xs ys=>SV.alls f xs && SV.alls f ys
 | .ifc _ x=>SV.all f x
 | _=>true
def SV.alls (f:Nat→Bool):List SV→Bool
 | []=>true
 |x::r=>SV.all f x && SV.alls f r
end
theorem yf (ρ : Nat→AV):∀ l:List SV,SV.evs ρ l=l.map (SV.ev ρ)
 | []=>rfl
 |x::r=>by rw [SV.evs,yf ρ r];rfl
mutual
theorem qcx {f:Nat→Bool} {ρ ρ':Nat→AV} (h:∀ k,f k=true→ρ' k = ρ k):∀ v:SV,v.all f=true→v.ev ρ'=v.ev ρ
 | .a _,_=>rfl
 | .i _,_=>rfl
 | .s _,_=>rfl
 | .tt,_=>rfl
 | .ff,_=>rfl
 | .b _,_=>rfl
 | .p _ _,_=>rfl
 | .bx k off,hv=>by simp only [SV.all] at hv;simp only [SV.ev,h k hv]
 | .tp k,hv=>by simp only [SV.all] at hv;simp only [SV.ev,h k hv]
 | .ag cs,hv=>by simp only [SV.all] at hv;simp only [SV.ev,qbo h cs hv]
 | .tu cs,hv=>by simp only [SV.all] at hv;simp only [SV.ev,qbo h cs hv]
 | .fn f xs ys,hv=>by simp only [SV.all,Bool.and_eq_true] at hv;simp only [SV.ev,qbo h xs hv.1,qbo h ys hv.2]
 | .ifc t x,hv=>by simp only [SV.all] at hv;simp only [SV.ev,qcx h x hv]
theorem qbo {f:Nat→Bool} {ρ ρ':Nat→AV} (h:∀ k,f k=true→ρ' k = ρ k):∀ l:List SV,SV.alls f l=true→SV.evs ρ' l=SV.evs ρ l
 | [],_=>rfl
 |x::r,hv=>by simp only [SV.alls,Bool.and_eq_true] at hv;simp only [SV.evs,qcx h x hv.1,qbo h r hv.2]
end
mutual
theorem all_mono {f g:Nat→Bool} (h:∀ k,f k=true→g k=true):∀ v:SV,v.all f=true→v.all g=true
 | .a _,_=>rfl
 | .i _,_=>rfl
 | .s _,_=>rfl
 | .tt,_=>rfl
 | .ff,_=>rfl
 | .b _,_=>rfl
 | .p _ _,_=>rfl
 | .bx k off,hv=>h k hv
 | .tp k,hv=>h k hv
 | .ag cs,hv=>qdl h cs hv
 | .tu cs,hv=>qdl h cs hv
 | .fn f xs ys,hv=>by simp only [SV.all,Bool.and_eq_true] at hv ⊢;exact⟨qdl h xs hv.1,qdl h ys hv.2⟩
 | .ifc t x,hv=>all_mono h x hv
theorem qdl {f g:Nat→Bool} (h:∀ k,f k=true→g k=true):∀ l:List SV,SV.alls f l=true→SV.alls g l=true
 | [],_=>rfl
 |x::r,hv=>by simp only [SV.alls,Bool.and_eq_true] at hv ⊢;exact⟨all_mono h x hv.1,qdl h r hv.2⟩
end
inductive SR where
 |cells (T:TypeId) (cs:List SV)
 |tip (sz:Nat) (T:TypeId) (xs:List AV)
 |own (sz:Nat) (T:TypeId) (xs:List AV)
 |obj (P:AObj→AV→Prop)
  |rows (T:TypeId) (ys:List AV) (cs:List SV)
def SR.all (f:Nat→Bool):SR→Bool
 | .cells _ cs=>SV.alls f cs
 | .tip _ _ _=>true
 | .own _ _ _=>true
 | .obj _=>true
 | .rows _ _ cs=>SV.alls f cs
structure qc3 (c:AV):Prop where
 val:∀ (G:Gh) (v:Value),Rel G c v→∃ base,v = .slice base 0 0
 one:c.one=true
 len:lenA c=some 0
 bx:∀ (o ver off len cap:Nat),c≠.os o ver off len (cap+1)
 nb:∀ (o ver off:Nat),c≠.bx o ver off
 ns:∀ (sz:Nat) (xs:List AV) (t:Nat),c≠.sl sz xs (some t)
theorem qok (base:Option Addr):qc3 (.v (.slice base 0 0)):=⟨fun G v h=>by cases h;exact⟨base,rfl⟩,rfl,rfl,by simp,by simp,by simp⟩
theorem qlw (o v f:Nat):qc3 (.os o v f 0 0):=⟨fun G v h=>by cases h;exact⟨_,rfl⟩,rfl,rfl,by simp,by simp,by simp⟩
def OwnS (S:List AObj) (sz:Nat) (T:TypeId) (xs:List AV) (c:AV):Prop:=
 (xs=[]∧qc3 c)∨∃ o ver cap pad,c = .os o ver 0 xs.length (cap+1)∧S[o]? = some (.cells ver T (flat xs++pad))∧(flat xs++pad).length=(cap+1) * sz∧(∀ x∈xs,x.cells.length=sz)∧xs.length≤cap+1∧cap+1≤maxLen
def z6:AV→Option Nat
 | .bx o _ _=>some o
 | .sl _ _ (some t)=>some t
 | .os o _ _ _ (_+1)=>some o
 | .mp o=>some o
 | _=>none
def SR.ok (ρ : Nat→AV) (S:List AObj) (c:AV):SR→Prop
 | .cells T cs=>∃ o v,c = .bx o v 0∧S[o]? = some (.cells v T (SV.evs ρ cs))∧v=0
 | .tip sz T xs=>TipO 0 S sz T xs c
 | .own sz T xs=>OwnS S sz T xs c
 | .obj P=>∃ o x,z6 c=some o∧S[o]? = some x∧x≠.dfr∧P x c
 | .rows T ys cs=>OwnS S 1 T (ys++SV.evs ρ cs) c
theorem SR.all_mono {f g:Nat→Bool} (h:∀ k,f k=true→g k=true):∀ r:SR,r.all f=true→r.all g=true
 | .cells _ cs,hr=>qdl h cs hr
 | .tip _ _ _,_=>rfl
 | .own _ _ _,_=>rfl
 | .obj _,_=>rfl
 | .rows _ _ cs,hr=>qdl h cs hr
theorem qc3.nm {o:Nat} (h:qc3 (.mp o)):False:=by
 obtain⟨_,e⟩:=h.val ⟨fun _=>none,fun _=>⟨0,0,0,true⟩,o+1⟩ (.map (some 0)) (.mp _ _ (Nat.lt_succ_self _) rfl rfl)
 cases e
theorem OwnS.loc {S:List AObj} {sz:Nat} {T:TypeId} {xs:List AV} {c:AV} (h:OwnS S sz T xs c) {o:Nat} (ho:z6 c=some o):∃ ver cap pad,c = .os o ver 0 xs.length (cap+1)∧S[o]? = some (.cells ver T (flat xs++pad))∧(flat xs++pad).length=(cap+1) * sz∧(∀ x∈xs,x.cells.length=sz)∧xs.length≤cap+1∧cap+1≤maxLen:=by
 rcases h with⟨_,h⟩ | ⟨o',ver,cap,pad,rfl,h⟩
 ·unfold z6 at ho
  split at ho
  ·exact absurd rfl (h.nb _ _ _)
  ·exact absurd rfl (h.ns _ _ _)
  ·exact absurd rfl (h.bx _ _ _ _ _)
  ·exact h.nm.elim
  ·simp at ho
 ·simp only [z6,Option.some.injEq] at ho
  subst ho
  exact⟨ver,cap,pad,rfl,h⟩
theorem qc3.loc {c:AV} (h:qc3 c):z6 c=none:=by
 unfold z6
 split
 ·exact absurd rfl (h.nb _ _ _)
 ·exact absurd rfl (h.ns _ _ _)
 ·exact absurd rfl (h.bx _ _ _ _ _)
 ·exact h.nm.elim
 ·rfl
theorem qc3.wk {c:AV} (h:qc3 c) (sz:Nat):∀ (G:Gh) (v:Value),Rel G c v→Rel G (.sl sz [] none) v:=fun G v hv=>by
 obtain⟨base,rfl⟩:=h.val G v hv
 exact .sl0 sz none _ _ (by simp)
theorem OwnS.of {S S':List AObj} {sz:Nat} {T:TypeId} {xs:List AV} {c:AV} (h:OwnS S sz T xs c) (hs:∀ o,z6 c=some o→S'[o]? = S[o]?):OwnS S' sz T xs c:=by
 rcases h with h | ⟨o,ver,cap,pad,rfl,h1,h2⟩
 ·exact .inl h
 ·exact .inr ⟨o,ver,cap,pad,rfl,(hs o rfl).trans h1,h2⟩
theorem SR.ok_lt {ρ : Nat→AV} {S:List AObj} {c:AV} {r:SR} (h:r.ok ρ S c) {o:Nat} (ho:z6 c=some o):o<S.length:=by
 cases r with
 |cells T cs=>
  obtain⟨o',v,rfl,h,_⟩:=h
  simp only [z6,Option.some.injEq] at ho
  subst ho
  exact lt_of_getElem? h
 |tip sz T xs=>
  rcases h with (⟨_,rfl⟩ | ⟨t,rfl,ht,_⟩) | ⟨_,o',v,f,rfl⟩
  ·simp [z6] at ho
  ·simp only [z6,Option.some.injEq] at ho
   subst ho
   exact lt_of_getElem? ht
  ·simp [z6] at ho
 |own sz T xs=>
  obtain⟨_,_,_,_,h,_⟩:=OwnS.loc h ho
  exact lt_of_getElem? h
 |obj P=>
  obtain⟨o',x,h1,h2,_⟩:=h
  rw [h1,Option.some.injEq] at ho
  subst ho
  exact lt_of_getElem? h2
 |rows T ys cs=>
  obtain⟨_,_,_,_,h,_⟩:=OwnS.loc h ho
  exact lt_of_getElem? h
theorem SR.ok_of {ρ ρ':Nat→AV} {S S':List AObj} {c:AV} {r:SR} {f:Nat→Bool} (hf:r.all f=true) (hr:∀ k,f k=true→ρ' k = ρ k) (h:r.ok ρ S c) (hs:∀ o,z6 c=some o→S'[o]? = S[o]?):r.ok ρ' S' c:=by
 cases r with
 |cells T cs=>
  obtain⟨o,v,rfl,h,h0⟩:=h
  refine⟨o,v,rfl,?_,h0⟩
  rw [hs o rfl,qbo hr cs hf]
  exact h
 |tip sz T xs=>
  rcases h with (⟨h1,h2⟩ | ⟨t,rfl,ht,h0⟩)|h
  ·exact .inl (.inl ⟨h1,h2⟩)
  ·exact .inl (.inr ⟨t,rfl,(hs t rfl).trans ht,h0⟩)
  ·exact .inr h
 |own sz T xs=>exact OwnS.of h hs
 |obj P=>
  obtain⟨o,x,h1,h2,h3⟩:=h
  exact⟨o,x,h1,(hs o h1).trans h2,h3⟩
 |rows T ys cs=>
  have h2:=OwnS.of (S':=S') (show OwnS S 1 T (ys++SV.evs ρ cs) c from h) hs
  show OwnS S' 1 T (ys++SV.evs ρ' cs) c
  rw [qbo hr cs hf]
  exact h2
structure SatF (S:List AObj) (ρ : Nat→AV) (H:Nat→Option SR):Prop where
 ok:∀ k r,H k=some r→r.ok ρ S (ρ k)
 sep:∀ k k' r r',k≠k'→H k=some r→H k'=some r'→∀ o,z6 (ρ k)=some o→z6 (ρ k')≠some o
def lkS {α : Type}:List (Nat×α)→Nat→Option α
 | [],_=>none
 |(i,v)::r,k=>bif Nat.beq i k then some v else lkS r k
theorem qdr {α : Type}:∀ (l r:List (Nat×α)) (k:Nat),lkS (l++r) k=match lkS l k with|some v=>some v|none=>lkS r k
 | [],_,_=>rfl
 |(i,v)::l,r,k=>by
  simp only [List.cons_append,lkS]
  cases Nat.beq i k
  ·simp only [cond_false];exact qdr l r k
  ·rfl
def hpF (hp:List (Nat×Option SR)) (k:Nat):Option SR:=match lkS hp k with|some r=>r|none=>none
def chF (ch:List (Nat×Option SR)) (H:Nat→Option SR) (k:Nat):Option SR:=match lkS ch k with|some r=>r|none=>H k
theorem qz0 (ch hp:List (Nat×Option SR)):hpF (ch++hp)=chF ch (hpF hp):=by
 funext k
 unfold hpF chF
 rw [qdr]
 cases lkS ch k <;> rfl
def memN (ks:List Nat) (k:Nat):Bool:=ks.any (Nat.beq k)
def resF (ks:List Nat) (H:Nat→Option SR) (k:Nat):Option SR:=bif memN ks k then H k else none
theorem yn {ks:List Nat} {H:Nat→Option SR} {k:Nat} {r:SR} (h:resF ks H k=some r):memN ks k=true∧H k=some r:=by
 unfold resF at h
 cases hm:memN ks k with
 |true=>rw [hm] at h;exact⟨rfl,h⟩
 |false=>rw [hm] at h;simp at h
theorem SatF.res {S:List AObj} {ρ : Nat→AV} {H:Nat→Option SR} (h:SatF S ρ H) (ks:List Nat):SatF S ρ (resF ks H):=
 ⟨fun k r hk=>h.ok k r (yn hk).2,fun k k' r r' hne h1 h2=>h.sep k k' r r' hne (yn h1).2 (yn h2).2⟩
structure Ef where
 val:SV
 ks:List Nat
 ch:List (Nat×Option SR)
 nx:Nat
def Ef.wf (e:Ef) (nx:Nat):Bool:=Nat.ble nx e.nx && e.val.all (fun k=>Nat.blt k e.nx) && e.ch.all (fun p=>Nat.blt p.1 e.nx && (memN e.ks p.1 ||Nat.ble nx p.1) && match p.2 with|some r=>r.all (fun k=>Nat.blt k e.nx)|none=>true)
def SlOk (ρ : Nat→AV) (t:Nat→AV) (sl:List (Nat×SV)):Prop:=∀ d v,lkS sl d=some v→t d=v.ev ρ
structure qgu (ρ : Nat→AV) (S:List AObj) (nx:Nat) (H:Nat→Option SR) (e:Ef) (ρ':Nat→AV) (S':List AObj):Prop where
 old:∀ k,(k<nx∨e.nx≤k)→ρ' k = ρ k
 sat:SatF S' ρ' (chF e.ch (resF e.ks H))
 len:S.length≤S'.length
 fr:∀ j,j<S.length→(∀ k r,resF e.ks H k=some r→z6 (ρ k)≠some j)→S'[j]? = S[j]?
 loc:∀ k r,chF e.ch (resF e.ks H) k=some r→∀ o,z6 (ρ' k)=some o→S.length≤o∨∃ k' r',resF e.ks H k'=some r'∧z6 (ρ k')=some o
def Loc (E:Env) (N:Nat) (ops:Array Oper) (o:Oper) (nx:Nat) (sl:List (Nat×SV)) (H:Nat→Option SR) (e:Ef):Prop:=
 ∀ (df:List Nat) (rd:Option Nat) (K:AS→Prop) (rest:List Oper) (ρ : Nat→AV) (t:Nat→AV) (S:List AObj),SlOk ρ t sl→SatF S ρ (resF e.ks H) →
  (∀ ρ' S',qgu ρ S nx H e ρ' S'→AOps E rd N ops rest K (AS.put ⟨t,S',df⟩ o.dst (e.val.ev ρ')))→AOps E rd N ops (o::rest) K ⟨t,S,df⟩
structure Conf where
 sl:List (Nat×SV)
 hp:List (Nat×Option SR)
 nx:Nat
def Conf.app (C:Conf) (d:Option Tmp) (e:Ef):Conf:=⟨match d with|some d=>(d,e.val)::C.sl|none=>C.sl,e.ch++C.hp,e.nx⟩
structure SatR (S0:List AObj) (F:Nat→Prop) (C:Conf) (ρ : Nat→AV) (t:Nat→AV) (S:List AObj):Prop where
 sl:SlOk ρ t C.sl
 hp:SatF S ρ (hpF C.hp)
 own:∀ k r,hpF C.hp k=some r→∀ o,z6 (ρ k)=some o→S0.length≤o∨F o
 low:∀ j,j<S0.length→¬ F j→S[j]? = S0[j]?
 len:S0.length≤S.length
 wsl:∀ d v,lkS C.sl d=some v→v.all (fun k=>Nat.blt k C.nx)=true
 whp:∀ k r,hpF C.hp k=some r→k<C.nx∧r.all (fun k=>Nat.blt k C.nx)=true
structure Bs where
 S0:List AObj
 F:Nat→Prop
 ρ0:Nat→AV
 n0:Nat
 dz:Prop
structure Frm (B:Bs) (C:Conf) (ρ : Nat→AV) (df:List Nat) (S:List AObj):Prop where
 dm:∀ d∈df,S[d]? = some .dfr∧B.S0.length≤d
 nd:df.Nodup
 rig:∀ k,k<B.n0→ρ k=B.ρ0 k
 le:B.n0≤C.nx
 dz:B.dz→df=[]
def SatC (B:Bs) (C:Conf) (s:AS):Prop:=∃ ρ,Frm B C ρ s.df s.st∧SatR B.S0 B.F C ρ s.t s.st
theorem SR.ok_dfr {ρ : Nat→AV} {S:List AObj} {c:AV} {r:SR} (h:r.ok ρ S c) {o:Nat} (ho:z6 c=some o):S[o]?≠some .dfr:=by
 cases r with
 |cells T cs=>
  obtain⟨o',v,rfl,h,_⟩:=h
  simp only [z6,Option.some.injEq] at ho
  subst ho
  rw [h]
  simp
 |tip sz T xs=>
  rcases h with (⟨_,rfl⟩ | ⟨t,rfl,ht,_⟩) | ⟨_,o',v,f,rfl⟩
  ·simp [z6] at ho
  ·simp only [z6,Option.some.injEq] at ho
   subst ho
   rw [ht]
   simp
  ·simp [z6] at ho
 |own sz T xs=>
  obtain⟨_,_,_,_,h,_⟩:=OwnS.loc h ho
  rw [h]
  simp
 |obj P=>
  obtain⟨o',x,h1,h2,h3,_⟩:=h
  rw [h1,Option.some.injEq] at ho
  subst ho
  rw [h2]
  simpa using h3
 |rows T ys cs=>
  obtain⟨_,_,_,_,h,_⟩:=OwnS.loc h ho
  rw [h]
  simp
theorem xj {a b:Nat} (h:Nat.blt a b=true):a<b:=by simpa [Nat.blt_eq] using h
theorem qb5 {a b:Nat} (h:a<b):Nat.blt a b=true:=by simpa [Nat.blt_eq] using h
theorem qf4 {e:Ef} {nx:Nat} (h:e.wf nx=true):nx≤e.nx∧e.val.all (fun k=>Nat.blt k e.nx)=true∧∀ p∈e.ch,p.1<e.nx∧(memN e.ks p.1=true∨nx≤p.1)∧∀ r,p.2=some r→r.all (fun k=>Nat.blt k e.nx)=true:=by
 simp only [Ef.wf,Bool.and_eq_true] at h
 refine⟨Nat.le_of_ble_eq_true h.1.1,h.1.2,fun p hp=>?_⟩
 have:=List.all_eq_true.1 h.2 p hp
 simp only [Bool.and_eq_true,Bool.or_eq_true] at this
 refine⟨xj this.1.1,this.1.2.imp_right Nat.le_of_ble_eq_true,fun r hr=>?_⟩
 have h3:=this.2
 rw [hr] at h3
 exact h3
theorem xc {α : Type}:∀ {l:List (Nat×α)} {k:Nat} {v : α},lkS l k=some v→(k,v)∈l
 | [],_,_,h=>by simp [lkS] at h
 |(i,x)::r,k,v,h=>by
  unfold lkS at h
  cases hb:Nat.beq i k with
  |true=>
   rw [hb] at h
   simp only [cond_true,Option.some.injEq] at h
   have:=Nat.eq_of_beq_eq_true hb
   subst this
   subst h
   simp
  |false=>
   rw [hb] at h
   exact List.mem_cons_of_mem _ (xc h)
theorem SatR.stepG {S0:List AObj} {F:Nat→Prop} {C:Conf} {ρ ρ' t:Nat→AV} {S S':List AObj} {e:Ef} {d:Option Tmp} {nx NX:Nat} (h:SatR S0 F C ρ t S) (hN:C.nx≤NX) (w2:e.val.all (fun k=>Nat.blt k NX)=true) (w3:∀ p∈e.ch,p.1<NX∧∀ r,p.2=some r→r.all (fun k=>Nat.blt k NX)=true)
  (a1:∀ d v,lkS C.sl d=some v→v.all (fun k=>Nat.blt k nx ||Nat.ble e.nx k)=true) (a2:∀ k r,hpF C.hp k=some r→(k<nx∨e.nx≤k)∧r.all (fun k=>Nat.blt k nx ||Nat.ble e.nx k)=true) (hp:qgu ρ S nx (hpF C.hp) e ρ' S') :
  SatR S0 F ⟨match d with|some d=>(d,e.val)::C.sl|none=>C.sl,e.ch++C.hp,NX⟩ ρ' (AS.put ⟨t,S',[]⟩ d (e.val.ev ρ')).t S':=by
 have hav:∀ k,(Nat.blt k nx ||Nat.ble e.nx k)=true→ρ' k = ρ k:=fun k hk=>by
  rcases Bool.or_eq_true_iff.1 hk with hk|hk
  ·exact hp.old k (.inl (xj hk))
  ·exact hp.old k (.inr (Nat.le_of_ble_eq_true hk))
 have hev:∀ d v,lkS C.sl d=some v→v.ev ρ'=v.ev ρ:=fun d v hd=>qcx hav v (a1 d v hd)
 have hres:∀ k r,hpF C.hp k=some r→memN e.ks k=true→resF e.ks (hpF C.hp) k=some r:=fun k r h1 h2=>by unfold resF;rw [h2];exact h1
 -- what lies at a name behind the operation
 have key:∀ k r,hpF (e.ch++C.hp) k=some r→chF e.ch (resF e.ks (hpF C.hp)) k=some r∨(memN e.ks k=false∧lkS e.ch k=none∧hpF C.hp k=some r):=fun k r hk=>by
  rw [qz0] at hk
  unfold chF at hk ⊢
  cases hl:lkS e.ch k with
  |some x=>rw [hl] at hk;exact .inl hk
  |none=>
   rw [hl] at hk
   simp only at hk ⊢
   cases hm:memN e.ks k with
   |true=>exact .inl (hres k r hk hm)
   |false=>exact .inr ⟨rfl,trivial,hk⟩
 have hst:∀ k r,memN e.ks k=false→hpF C.hp k=some r→∀ o,z6 (ρ k)=some o→S'[o]? = S[o]?∧o<S.length:=fun k r hm hk o ho=>by
  have hlt:=SR.ok_lt (h.hp.ok k r hk) ho
  refine⟨hp.fr o hlt fun k' r' hk'=>?_,hlt⟩
  obtain⟨hm',hk'⟩:=yn hk'
  have hne:k≠k':=fun e=>by subst e;rw [hm] at hm';simp at hm'
  exact h.hp.sep k k' r r' hne hk hk' o ho
 have hρ : ∀ k r,hpF C.hp k=some r→ρ' k = ρ k:=fun k r hk=>hp.old k (a2 k r hk).1
 have sepx:∀ k k' r r',memN e.ks k=false→hpF C.hp k=some r→chF e.ch (resF e.ks (hpF C.hp)) k'=some r'→∀ o,z6 (ρ' k)=some o→z6 (ρ' k')≠some o:=fun k k' r r' hm hk hk' o ho ho'=>by
  rw [hρ k r hk] at ho
  obtain⟨_,hlt⟩:=hst k r hm hk o ho
  rcases hp.loc k' r' hk' o ho' with h1 | ⟨k2,r2,h2,h3⟩
  ·omega
  ·obtain⟨hm2,hk2⟩:=yn h2
   have hne:k≠k2:=fun e=>by subst e;rw [hm] at hm2;simp at hm2
   exact h.hp.sep k k2 r r2 hne hk hk2 o ho h3
 refine⟨?_,⟨?_,?_⟩,?_,?_,Nat.le_trans h.len hp.len,?_,?_⟩
 ·cases d with
  |none=>exact fun x v hx=>(h.sl x v hx).trans (hev x v hx).symm
  |some d=>
   intro x v hx
   simp only [lkS] at hx
   by_cases hd:x=d
   ·subst hd
    have hb:Nat.beq x x=true:=by simp
    rw [hb] at hx
    simp only [cond_true,Option.some.injEq] at hx
    subst hx
    exact y8 _ _ _
   ·rw [wb (fun e=>hd e.symm)] at hx
    simp only [cond_false] at hx
    exact (qbj _ _ _ _ hd).trans ((h.sl x v hx).trans (hev x v hx).symm)
 ·intro k r hk
  rcases key k r hk with h1 | ⟨hm,_,h1⟩
  ·exact hp.sat.ok k r h1
  ·rw [hρ k r h1]
   exact SR.ok_of (a2 k r h1).2 hav (h.hp.ok k r h1) fun o ho=>(hst k r hm h1 o ho).1
 ·intro k k' r r' hne hk hk' o ho
  rcases key k r hk with h1 | ⟨hm,_,h1⟩
  ·rcases key k' r' hk' with h2 | ⟨hm2,_,h2⟩
   ·exact hp.sat.sep k k' r r' hne h1 h2 o ho
   ·exact fun ho'=>sepx k' k r' r hm2 h2 h1 o ho' ho
  ·rcases key k' r' hk' with h2 | ⟨hm2,_,h2⟩
   ·exact sepx k k' r r' hm h1 h2 o ho
   ·rw [hρ k r h1] at ho
    rw [hρ k' r' h2]
    exact h.hp.sep k k' r r' hne h1 h2 o ho
 ·intro k r hk o ho
  rcases key k r hk with h1 | ⟨hm,_,h1⟩
  ·rcases hp.loc k r h1 o ho with h2 | ⟨k',r',h2,h3⟩
   ·exact .inl (Nat.le_trans h.len h2)
   ·exact h.own k' r' (yn h2).2 o h3
  ·rw [hρ k r h1] at ho
   exact h.own k r h1 o ho
 ·intro j hj hF
  refine (hp.fr j (Nat.lt_of_lt_of_le hj h.len) fun k r hk ho=>?_).trans (h.low j hj hF)
  rcases h.own k r (yn hk).2 j ho with h1|h1
  ·omega
  ·exact hF h1
 ·intro x v hx
  have hold:lkS C.sl x=some v→v.all (fun k=>Nat.blt k NX)=true:=fun hx=>all_mono (fun k hk=>qb5 (by have:=xj hk;omega)) v (h.wsl x v hx)
  cases d with
  |none=>exact hold hx
  |some d=>
   simp only [lkS] at hx
   cases hb:Nat.beq d x with
   |true=>
    rw [hb] at hx
    simp only [cond_true,Option.some.injEq] at hx
    subst hx
    exact w2
   |false=>
    rw [hb] at hx
    exact hold hx
 ·intro k r hk
  have hold:hpF C.hp k=some r→k<NX∧r.all (fun k=>Nat.blt k NX)=true:=fun hk=>⟨by have:=(h.whp k r hk).1;omega,SR.all_mono (fun k hk=>qb5 (by have:=xj hk;omega)) r (h.whp k r hk).2⟩
  rcases key k r hk with h1 | ⟨_,_,h1⟩
  ·unfold chF at h1
   cases hl:lkS e.ch k with
   |some x=>
    rw [hl] at h1
    simp only at h1
    obtain⟨h2,h3⟩:=w3 _ (xc hl)
    exact⟨h2,h3 r h1⟩
   |none=>
    rw [hl] at h1
    exact hold (yn h1).2
  ·exact hold h1
theorem SatR.step {S0:List AObj} {F:Nat→Prop} {C:Conf} {ρ ρ' t:Nat→AV} {S S':List AObj} {e:Ef} {d:Option Tmp} (h:SatR S0 F C ρ t S) (hw:e.wf C.nx=true) (hp:qgu ρ S C.nx (hpF C.hp) e ρ' S') :
  SatR S0 F (C.app d e) ρ' (AS.put ⟨t,S',[]⟩ d (e.val.ev ρ')).t S':=by
 obtain⟨w1,w2,w3⟩:=qf4 hw
 exact h.stepG w1 w2 (fun p hp=>⟨(w3 p hp).1,(w3 p hp).2.2⟩) (fun d v hd=>all_mono (fun k hk=>by rw [hk];rfl) v (h.wsl d v hd)) (fun k r hk=>⟨.inl (h.whp k r hk).1,SR.all_mono (fun k hk=>by rw [hk];rfl) r (h.whp k r hk).2⟩) hp
theorem Frm.nx {B:Bs} {C C':Conf} {ρ : Nat→AV} {S:List AObj} {df:List Nat} (h:Frm B C ρ df S) (hn:B.n0≤C'.nx):Frm B C' ρ df S:=⟨h.dm,h.nd,h.rig,hn,h.dz⟩
theorem Frm.stepG {B:Bs} {C C':Conf} {ρ ρ':Nat→AV} {S S':List AObj} {df:List Nat} {e:Ef} {nx:Nat} {H:Nat→Option SR} (h:Frm B C ρ df S) (hS:SatF S ρ H) (hp:qgu ρ S nx H e ρ' S') (hn:B.n0≤nx) (hn':B.n0≤C'.nx):Frm B C' ρ' df S':=by
 refine⟨fun x hx=>?_,h.nd,fun k hk=>?_,hn',h.dz⟩
 ·have hm:=h.dm x hx
  refine⟨?_,hm.2⟩
  rw [hp.fr x (lt_of_getElem? hm.1) fun k r hk hl=>?_]
  ·exact hm.1
  ·exact SR.ok_dfr (hS.ok k r (yn hk).2) hl hm.1
 ·rw [hp.old k (.inl (Nat.lt_of_lt_of_le hk hn))]
  exact h.rig k hk
theorem Frm.step {B:Bs} {C:Conf} {ρ ρ':Nat→AV} {S S':List AObj} {df:List Nat} {e:Ef} {d:Option Tmp} (h:Frm B C ρ df S) (hS:SatF S ρ (hpF C.hp)) (hw:e.wf C.nx=true) (hp:qgu ρ S C.nx (hpF C.hp) e ρ' S'):Frm B (C.app d e) ρ' df S':=
 h.stepG hS hp h.le (Nat.le_trans h.le (qf4 hw).1)
theorem SatR.dead {S0:List AObj} {F:Nat→Prop} {C:Conf} {ρ t:Nat→AV} {S:List AObj} {d:Nat} (h:SatR S0 F C ρ t S) (hd:S[d]? = some .dfr) (hl:S0.length≤d):SatR S0 F C ρ t (S.set d .dead):=by
 refine⟨h.sl,⟨fun k r hk=>?_,h.hp.sep⟩,h.own,fun j hj hF=>?_,by simpa using h.len,h.wsl,h.whp⟩
 ·refine SR.ok_of (f:=fun _=>true) (SR.all_mono (fun _ _=>rfl) r (h.whp k r hk).2) (fun _ _=>rfl) (h.hp.ok k r hk) fun o ho=>?_
  have hne:d≠o:=fun e=>SR.ok_dfr (h.hp.ok k r hk) ho (e▸hd)
  rw [List.getElem?_set_ne hne]
 ·rw [List.getElem?_set_ne (by omega)]
  exact h.low j hj hF
theorem SR.ok_ct {ρ : Nat→AV} {S:List AObj} {c:AV} {r:SR} (h:r.ok ρ S c) {o:Nat} (ho:z6 c=some o):(∃ T cs v,S[o]? = some (.cells v T cs)∧∃ T' cs',r = .cells T' cs')∨(∃ m sz T,S[o]? = some (.tip m sz T))∨(∃ sz T xs,r = .own sz T xs)∨(∃ P,r = .obj P)∨∃ T ys cs,r = .rows T ys cs:=by
 cases r with
 |cells T cs=>
  obtain⟨o',v,rfl,h,_⟩:=h
  simp only [z6,Option.some.injEq] at ho
  subst ho
  exact .inl ⟨_,_,_,h,_,_,rfl⟩
 |tip sz T xs=>
  rcases h with (⟨_,rfl⟩ | ⟨t,rfl,ht,_⟩) | ⟨_,o',v,f,rfl⟩
  ·simp [z6] at ho
  ·simp only [z6,Option.some.injEq] at ho
   subst ho
   exact .inr (.inl ⟨_,_,_,ht⟩)
  ·simp [z6] at ho
 |own sz T xs=>exact .inr (.inr (.inl ⟨_,_,_,rfl⟩))
 |obj P=>exact .inr (.inr (.inr (.inl ⟨_,rfl⟩)))
 |rows T ys cs=>exact .inr (.inr (.inr (.inr ⟨_,_,_,rfl⟩)))
def qdg (hp:List (Nat×Option SR)) (ρ : Nat→AV) (o:Nat):Prop:=∃ k r,hpF hp k=some r∧z6 (ρ k)=some o
theorem SatR.rebase {S0:List AObj} {F:Nat→Prop} {C:Conf} {ρ t:Nat→AV} {S S':List AObj} (h:SatR S0 F C ρ t S) (hs:∀ o,qdg C.hp ρ o→S'[o]? = S[o]?):SatR S' (qdg C.hp ρ) C ρ t S':=
 ⟨h.sl,⟨fun k r hk=>SR.ok_of (f:=fun _=>true) (SR.all_mono (fun _ _=>rfl) r (h.whp k r hk).2) (fun _ _=>rfl) (h.hp.ok k r hk) fun o ho=>hs o ⟨k,r,hk,ho⟩,h.hp.sep⟩,
  fun k r hk o ho=>.inr ⟨k,r,hk,ho⟩,fun _ _ _=>rfl,Nat.le_refl _,h.wsl,h.whp⟩
def Wk (x r:AV):Prop:=∀ (G:Gh) (v:Value),Rel G x v→Rel G r v
theorem yv (x:AV):Wk x x:=fun _ _ h=>h
theorem zdl {x y:AV} (h:x=y):Wk x y:=h▸yv x
theorem q8t (sz:Nat) (xs:List AV) (tip:Option Nat):Wk (.sl sz xs tip) (.sl sz xs none):=fun _ _ h=>qit h
theorem q2w {xs ys:List AV} (hl:xs.length=ys.length) (h:∀ (i:Nat) (x y:AV),xs[i]? = some x→ys[i]? = some y→Wk x y):Wk (.ag xs) (.ag ys):=fun G v hr=>by
 cases hr with
 |ag _ vs hl' hr=>
  refine .ag _ vs (by omega) fun i y b hy hb=>?_
  have hi:=lt_of_getElem? hy
  have hx:xs[i]? = some (xs[i]'(by omega)):=List.getElem?_eq_getElem (by omega)
  exact h i _ y hx hy G b (hr i _ b hx hb)
theorem q86 {xs ys:List AV} (hl:xs.length=ys.length) (h:∀ (i:Nat) (x y:AV),xs[i]? = some x→ys[i]? = some y→Wk x y):Wk (.tu xs) (.tu ys):=fun G v hr=>by
 cases hr with
 |tu _ vs hl' hr=>
  refine .tu _ vs (by omega) fun i y b hy hb=>?_
  have hi:=lt_of_getElem? hy
  have hx:xs[i]? = some (xs[i]'(by omega)):=List.getElem?_eq_getElem (by omega)
  exact h i _ y hx hy G b (hr i _ b hx hb)
theorem zc4 {t:TypeId} {x y:AV} (h:Wk x y):Wk (.ifc t x) (.ifc t y):=fun G v hr=>by
 cases hr with
 |ifc _ _ z hz=>exact .ifc t y z (h G z hz)
theorem zdm {f:Fn} {a b c d:List AV} (h1:a.length=c.length) (h2:∀ (i:Nat) (x y:AV),a[i]? = some x→c[i]? = some y→Wk x y) (h3:b.length=d.length) (h4:∀ (i:Nat) (x y:AV),b[i]? = some x→d[i]? = some y→Wk x y):Wk (.fn f a b) (.fn f c d):=fun G v hr=>by
 cases hr with
 |fn _ _ _ a' b' g1 g2 g3 g4=>
  refine .fn f c d a' b' (by omega) (by omega) (fun i x y hx hy=>?_) (fun i x y hx hy=>?_)
  ·have hi:i<a.length:=by have:=lt_of_getElem? hx;omega
   have hz:a[i]? = some a[i]:=List.getElem?_eq_getElem hi
   exact h2 i _ x hz hx G y (g3 i _ y hz hy)
  ·have hi:i<b.length:=by have:=lt_of_getElem? hx;omega
   have hz:b[i]? = some b[i]:=List.getElem?_eq_getElem hi
   exact h4 i _ x hz hx G y (g4 i _ y hz hy)
mutual
def frz (H:Nat→Option SR):SV→Option AV
 | .a x=>some x
 | .i n=>some (Iv n)
 | .s l=>some (Sv l)
 | .tt=>some (Bv true)
 | .ff=>some (Bv false)
 | .b c=>some (Bv c)
 | .p q h=>some (Bv (@decide q h))
 | .bx _ _=>none
 | .tp k=>match H k with
  |some (.tip sz _ xs)=>some (.sl sz xs none)
  | _=>none
 | .ag cs=>match frzs H cs with
  |some l=>some (.ag l)
  |none=>none
 | .tu cs=>match frzs H cs with
  |some l=>some (.tu l)
  |none=>none
 | .fn f xs ys=>match frzs H xs,frzs H ys with
  |some a,some b=>some (.fn f a b)
  | _,_=>none
 | .ifc t x=>match frz H x with
  |some y=>some (.ifc t y)
  |none=>none
def frzs (H:Nat→Option SR):List SV→Option (List AV)
 | []=>some []
 |x::r=>match frz H x,frzs H r with
  |some y,some l=>some (y::l)
  | _,_=>none
end
theorem q4x {x:AV} (h:x.one=true):x.cells=[x]:=by
 cases x <;> first|rfl|simp [AV.one] at h
theorem qsc {b:Nat} {S:List AObj} {sz:Nat} {T:TypeId} {xs:List AV} {c:AV} (h:TipO b S sz T xs c):Wk (tpAt c) (.sl sz xs none)∧c.one=true:=by
 have h1:c.one=true:=by rcases h with (⟨_,rfl⟩ | ⟨t,rfl,_⟩) | ⟨_,o,v,f,rfl⟩ <;> rfl
 refine⟨?_,h1⟩
 unfold tpAt
 rw [h1]
 exact qxs h
mutual
theorem qhu {S:List AObj} {ρ : Nat→AV} {H:Nat→Option SR} (hS:SatF S ρ H):∀ (v:SV) (x:AV),frz H v=some x→Wk (v.ev ρ) x
 | .a y,x,h=>by simp only [frz,Option.some.injEq] at h;subst h;exact yv _
 | .i y,x,h=>by simp only [frz,Option.some.injEq] at h;subst h;exact yv _
 | .s y,x,h=>by simp only [frz,Option.some.injEq] at h;subst h;exact yv _
 | .tt,x,h=>by simp only [frz,Option.some.injEq] at h;subst h;exact yv _
 | .ff,x,h=>by simp only [frz,Option.some.injEq] at h;subst h;exact yv _
 | .b y,x,h=>by simp only [frz,Option.some.injEq] at h;subst h;exact yv _
 | .p q d,x,h=>by simp only [frz,Option.some.injEq] at h;subst h;exact yv _
 | .bx _ _,x,h=>by simp [frz] at h
 | .tp k,x,h=>by
  simp only [frz] at h
  split at h
  ·rename_i sz T xs hk
   simp only [Option.some.injEq] at h
   subst h
   exact (qsc (hS.ok k _ hk)).1
  ·simp at h
 | .ag cs,x,h=>by
  simp only [frz] at h
  split at h
  ·rename_i l hl
   simp only [Option.some.injEq] at h
   subst h
   obtain⟨h1,h2⟩:=qe6 hS cs l hl
   exact q2w h1 h2
  ·simp at h
 | .tu cs,x,h=>by
  simp only [frz] at h
  split at h
  ·rename_i l hl
   simp only [Option.some.injEq] at h
   subst h
   obtain⟨h1,h2⟩:=qe6 hS cs l hl
   exact q86 h1 h2
  ·simp at h
 | .fn f xs ys,x,h=>by
  simp only [frz] at h
  split at h
  ·rename_i a b ha hb
   simp only [Option.some.injEq] at h
   subst h
   obtain⟨h1,h2⟩:=qe6 hS xs a ha
   obtain⟨h3,h4⟩:=qe6 hS ys b hb
   exact zdm h1 h2 h3 h4
  ·simp at h
 | .ifc t y,x,h=>by
  simp only [frz] at h
  split at h
  ·rename_i z hz
   simp only [Option.some.injEq] at h
   subst h
   exact zc4 (qhu hS y z hz)
  ·simp at h
theorem qe6 {S:List AObj} {ρ : Nat→AV} {H:Nat→Option SR} (hS:SatF S ρ H):∀ (l:List SV) (ys:List AV),frzs H l=some ys→(SV.evs ρ l).length=ys.length∧∀ (i:Nat) (x y:AV),(SV.evs ρ l)[i]? = some x→ys[i]? = some y→Wk x y
 | [],ys,h=>by simp only [frzs,Option.some.injEq] at h;subst h;exact⟨rfl,by simp [SV.evs]⟩
 |v::r,ys,h=>by
  simp only [frzs] at h
  split at h
  ·rename_i y l hy hl
   simp only [Option.some.injEq] at h
   subst h
   obtain⟨h1,h2⟩:=qe6 hS r l hl
   have h3:=qhu hS v y hy
   refine⟨by simp [SV.evs,h1],fun i a b ha hb=>?_⟩
   cases i with
   |zero=>simp [SV.evs] at ha hb;subst ha;subst hb;exact h3
   |succ i=>exact h2 i a b (by simpa [SV.evs] using ha) (by simpa using hb)
  ·simp at h
end
mutual
def SV.ks:SV→List Nat
 | .bx k _=>[k]
 | .tp k=>[k]
 | .ag cs=>SV.kss cs
 | .tu cs=>SV.kss cs
 | .fn _ xs ys=>SV.kss xs++SV.kss ys
 | .ifc _ x=>SV.ks x
 | _=>[]
def SV.kss:List SV→List Nat
 | []=>[]
 |x::r=>SV.ks x++SV.kss r
end
mutual
def nf:AV→SV
 | .v (.int .i64 n)=>.i n
 | .v (.string ⟨⟨l⟩⟩)=>.s l
 | .v (.bool c)=>.b c
 | .ag cs=>.ag (nfs cs)
 | .tu cs=>.tu (nfs cs)
 |x=>.a x
def nfs:List AV→List SV
 | []=>[]
 |x::r=>nf x::nfs r
end
mutual
theorem qkb (ρ : Nat→AV):∀ x:AV,(nf x).ev ρ = x
 | .v x=>by
  unfold nf
  split <;> first|rfl|(rename_i h;cases h;done)|(rename_i h;cases h;rfl)
 | .ag cs=>by simp only [nf,SV.ev,qgl ρ cs]
 | .tu cs=>by simp only [nf,SV.ev,qgl ρ cs]
 | .ifc _ _=>rfl
 | .fn _ _ _=>rfl
 | .sl _ _ _=>rfl
 | .pp _=>rfl
 | .bx _ _ _=>rfl
 | .os _ _ _ _ _=>rfl
 | .mp _=>rfl
 | .yd _=>rfl
theorem qgl (ρ : Nat→AV):∀ l:List AV,SV.evs ρ (nfs l)=l
 | []=>rfl
 |x::r=>by simp only [nfs,SV.evs,qkb ρ x,qgl ρ r]
end
mutual
theorem zci {f:Nat→Bool}:∀ x:AV,(nf x).all f=true
 | .v x=>by unfold nf;split <;> first|rfl|(rename_i h;cases h)
 | .ag cs=>by simp only [nf,SV.all];exact qmq cs
 | .tu cs=>by simp only [nf,SV.all];exact qmq cs
 | .ifc _ _=>rfl
 | .fn _ _ _=>rfl
 | .sl _ _ _=>rfl
 | .pp _=>rfl
 | .bx _ _ _=>rfl
 | .os _ _ _ _ _=>rfl
 | .mp _=>rfl
 | .yd _=>rfl
theorem qmq {f:Nat→Bool}:∀ l:List AV,SV.alls f (nfs l)=true
 | []=>rfl
 |x::r=>by simp only [nfs,SV.alls,zci x,qmq r];rfl
end
def cst:Value→SV
 | .bool true=>.tt
 | .bool false=>.ff
 |x=>nf (.v x)
theorem zby (ρ : Nat→AV) (x:Value):(cst x).ev ρ = .v x:=by
 unfold cst
 split
 ·rfl
 ·rfl
 ·exact qkb ρ _
def SV.cells:SV→List SV
 | .ag cs=>cs
 | .a x=>nfs x.cells
 |v=>[v]
theorem qn2 (ρ : Nat→AV) (v:SV):SV.evs ρ v.cells=(v.ev ρ).cells:=by
 cases v with
 |a x=>exact qgl ρ _
 |bx k off=>simp only [SV.cells,SV.evs,SV.ev];cases ρ k <;> rfl
 |tp k=>simp only [SV.cells,SV.evs,SV.ev,tpAt];cases h:(ρ k).one <;> first|rfl|(simp only [cond_true];exact (q4x h).symm)
 | _=>rfl
def SV.okc:SV→Bool
 | .a x=>x.okc
 | _=>true
theorem qw6 (ρ : Nat→AV) (v:SV) (h:v.okc=true):(v.ev ρ).okc=true:=by
 cases v with
 |a x=>exact h
 |bx k off=>simp only [SV.ev];cases ρ k <;> rfl
 |tp k=>
  simp only [SV.ev,tpAt]
  cases h:(ρ k).one
  ·rfl
  ·simp only [cond_true]
   cases hk : ρ k with
   |v x=>rw [hk] at h;cases x <;> first|rfl|simp [AV.one] at h
   | _=>rfl
 | _=>rfl
def SV.one:SV→Bool
 | .a x=>x.one
 | .ag _=>false
 | .tu _=>false
 | _=>true
theorem za7 (ρ : Nat→AV) (v:SV) (h:v.one=true):(v.ev ρ).one=true:=by
 cases v with
 |a x=>exact h
 |bx k off=>simp only [SV.ev];cases ρ k <;> rfl
 |tp k=>simp only [SV.ev,tpAt];cases h:(ρ k).one <;> first|rfl|exact h
 |ag _=>simp [SV.one] at h
 |tu _=>simp [SV.one] at h
 | _=>rfl
def ones (l:List SV):Bool:=l.all SV.one
theorem qz9 (ρ : Nat→AV):∀ l:List SV,ones l=true→∀ z∈SV.evs ρ l,z.one=true
 | [],_,z,hz=>by simp [SV.evs] at hz
 |x::r,h,z,hz=>by
  simp only [ones,List.all_cons,Bool.and_eq_true] at h
  simp only [SV.evs,List.mem_cons] at hz
  rcases hz with rfl|hz
  ·exact za7 ρ x h.1
  ·exact qz9 ρ r h.2 z hz
def sval (N:Nat) (sl:List (Nat×SV)):Operand→Option SV
 | .tmp i=>bif Nat.blt i N then lkS sl i else none
 | .const x=>some (cst x)
 | .global g=>some (.a (.v (.pointer (some ⟨g,0,none⟩))))
 | .func f=>some (.a (.fn (.func f) [] []))
theorem q6 {N:Nat} {sl:List (Nat×SV)} {ρ t:Nat→AV} {S:List AObj} {df:List Nat} (h:SlOk ρ t sl) {x:Operand} {v:SV} (hx:sval N sl x=some v):qj N ⟨t,S,df⟩ x=v.ev ρ:=by
 cases x with
 |tmp i=>
  simp only [sval] at hx
  simp only [qj]
  cases hb:Nat.blt i N with
  |true=>rw [hb] at hx;exact h i v hx
  |false=>rw [hb] at hx;simp at hx
 |const x=>simp only [sval,Option.some.injEq] at hx;subst hx;exact (zby ρ x).symm
 |global g=>simp only [sval,Option.some.injEq] at hx;subst hx;rfl
 |func f=>simp only [sval,Option.some.injEq] at hx;subst hx;rfl
def qkq (N:Nat) (sl:List (Nat×SV)):List Operand→Option (List SV)
 | []=>some []
 |x::r=>match sval N sl x,qkq N sl r with
  |some v,some l=>some (v::l)
  | _,_=>none
theorem qkr {N:Nat} {sl:List (Nat×SV)} {ρ t:Nat→AV} {S:List AObj} {df:List Nat} (h:SlOk ρ t sl):∀ {xs:List Operand} {l:List SV},qkq N sl xs=some l→xs.map (qj N ⟨t,S,df⟩)=SV.evs ρ l
 | [],l,hx=>by simp only [qkq,Option.some.injEq] at hx;subst hx;rfl
 |x::r,l,hx=>by
  simp only [qkq] at hx
  split at hx
  ·rename_i v l' h1 h2
   simp only [Option.some.injEq] at hx
   subst hx
   simp only [List.map_cons,SV.evs,q6 h h1,qkr h h2]
  ·simp at hx
section
variable {E : Env} {N : Nat} {ops : Array Oper} {o : Oper} {nx : Nat} {sl : List (Nat × SV)} {H : Nat → Option SR}
theorem qax {v:SV} {ks:List Nat} (h:∀ (df:List Nat) (rd:Option Nat) (K:AS→Prop) (rest:List Oper) (ρ t:Nat→AV) (S:List AObj),SlOk ρ t sl→SatF S ρ (resF ks H)→AOps E rd N ops rest K (AS.put ⟨t,S,df⟩ o.dst (v.ev ρ))→AOps E rd N ops (o::rest) K ⟨t,S,df⟩) :
  Loc E N ops o nx sl H ⟨v,ks,[],nx⟩:=fun df rd K rest ρ t S hs hS hk=>
 h df rd K rest ρ t S hs hS (hk ρ S ⟨fun _ _=>rfl,⟨fun k r hk=>hS.ok k r hk,fun k k' r r' hne h1 h2=>hS.sep k k' r r' hne h1 h2⟩,Nat.le_refl _,fun _ _ _=>rfl,fun k r hk o ho=>.inr ⟨k,r,hk,ho⟩⟩)
theorem j8 {v:SV} (h:∀ (df:List Nat) (rd:Option Nat) (K:AS→Prop) (rest:List Oper) (ρ t:Nat→AV) (S:List AObj),SlOk ρ t sl→AOps E rd N ops rest K (AS.put ⟨t,S,df⟩ o.dst (v.ev ρ))→AOps E rd N ops (o::rest) K ⟨t,S,df⟩) :
  Loc E N ops o nx sl H ⟨v,[],[],nx⟩:=qax fun df rd K rest ρ t S hs _ hk=>h df rd K rest ρ t S hs hk
def upd (ρ : Nat→AV) (n:Nat) (c:AV):Nat→AV:=fun k=>bif Nat.beq k n then c else ρ k
theorem xd (ρ : Nat→AV) (n:Nat) (c:AV):upd ρ n c n=c:=by simp [upd]
theorem qa5 (ρ : Nat→AV) {n k:Nat} (c:AV) (h:k≠n):upd ρ n c k = ρ k:=by simp [upd,wb h]
theorem qjk {v:SV} {r:SR} {ks:List Nat} (hks:∀ k r,resF ks H k=some r→k≠nx∧r.all (fun k=> !Nat.beq k nx)=true) (h:∀ (df:List Nat) (rd:Option Nat) (K:AS→Prop) (rest:List Oper) (ρ t:Nat→AV) (S:List AObj),SlOk ρ t sl→SatF S ρ (resF ks H) →
   (∀ c l,r.ok (upd ρ nx c) (S++l) c→(∀ o,z6 c=some o→S.length≤o)→AOps E rd N ops rest K (AS.put ⟨t,S++l,df⟩ o.dst (v.ev (upd ρ nx c))))→AOps E rd N ops (o::rest) K ⟨t,S,df⟩) :
  Loc E N ops o nx sl H ⟨v,ks,[(nx,some r)],nx+1⟩:=fun df rd K rest ρ t S hs hS hk=>by
 refine h df rd K rest ρ t S hs hS fun c l hc hl=>hk _ _ ⟨fun k hk=>qa5 _ _ (by simp only at hk;omega),?_,by simp,fun j hj _=>List.getElem?_append_left hj,?_⟩
 ·have key:∀ k r',chF [(nx,some r)] (resF ks H) k=some r'→(k=nx∧r'=r)∨(k≠nx∧resF ks H k=some r'):=fun k r' hk=>by
   simp only [chF,lkS] at hk
   by_cases e:nx=k
   ·subst e
    have:Nat.beq nx nx=true:=by simp
    rw [this] at hk
    simp only [cond_true,Option.some.injEq] at hk
    exact .inl ⟨rfl,hk.symm⟩
   ·rw [wb e] at hk
    exact .inr ⟨fun h=>e h.symm,hk⟩
  refine⟨fun k r' hk=>?_,fun k k' r1 r2 hne h1 h2 o ho=>?_⟩
  ·rcases key k r' hk with⟨rfl,rfl⟩ | ⟨h1,h2⟩
   ·rw [xd];exact hc
   ·rw [qa5 _ _ h1]
    have h3:=hS.ok k r' h2
    exact SR.ok_of (hks k r' h2).2 (fun k hk=>qa5 _ _ (fun e=>by subst e;simp at hk)) h3 fun o ho=>List.getElem?_append_left (SR.ok_lt h3 ho)
  ·rcases key k r1 h1 with⟨rfl,rfl⟩ | ⟨g1,g2⟩
   ·rcases key k' r2 h2 with⟨rfl,rfl⟩ | ⟨f1,f2⟩
    ·exact absurd rfl hne
    ·rw [xd] at ho
     rw [qa5 _ _ f1]
     intro ho'
     have:=SR.ok_lt (hS.ok k' r2 f2) ho'
     have:=hl o ho
     omega
   ·rcases key k' r2 h2 with⟨rfl,rfl⟩ | ⟨f1,f2⟩
    ·rw [qa5 _ _ g1] at ho
     rw [xd]
     intro ho'
     have:=SR.ok_lt (hS.ok k r1 g2) ho
     have:=hl o ho'
     omega
    ·rw [qa5 _ _ g1] at ho
     rw [qa5 _ _ f1]
     exact hS.sep k k' r1 r2 hne g2 f2 o ho
 ·intro k r' hk o ho
  simp only [chF,lkS] at hk
  by_cases e:nx=k
  ·subst e
   rw [xd] at ho
   exact .inl (hl o ho)
  ·rw [wb e] at hk
   rw [qa5 _ _ (fun h=>e h.symm)] at ho
   exact .inr ⟨k,r',hk,ho⟩
end
end Go.Av
