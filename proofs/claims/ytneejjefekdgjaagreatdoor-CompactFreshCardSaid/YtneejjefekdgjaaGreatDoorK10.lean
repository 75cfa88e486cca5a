/- Contracts and plain facts that the closing text leans on (part 10). No condition of their own beyond those that each states. -/
import Derived.Test.YtneejjefekdgjaaGreatDoorK9
import Derived.Test.YtneejjefekdgjaaGreatDoorK0
set_option maxRecDepth 100000
set_option linter.unusedVariables false
set_option linter.unusedSimpArgs false
namespace Go.Proofs.YtneejjefekdgjaaGreatDoor
open Go Go.Av Go.RowKit Go.Proofs Go.Pl
theorem qq9:∀ (b:List qr) (k:Nat) (l:qz) (ids:List Int),(xj k b l ids).1≠.no→(xj k b l ids).1.code≠0
 | [],k,l,ids,h=>by simp [xj] at h
 |x::r,k,l,ids,h=>by
  unfold xj at h ⊢;split
  ·rename_i he
   rw [if_pos he] at h;exact qq9 r _ _ _ h
  ·rename_i he
   exact qpo he
theorem zd4 {l:qz} {b:List qr} (h:(doF l b).1≠.no):(doF l b).1.code≠0:=by
 unfold doF at h ⊢;split
 ·rename_i he
  rw [if_pos he] at h;exact qq9 _ _ _ _ h
 ·rename_i he
  exact fun h'=>he ((qdz b).1 h')
def lR (b:vz) (n:Nat):qz:=if z8 b.base = .no then (vn b.base (b.batches.take n)).2.l else⟨[],0,0⟩
def gR (b:vz) (n:Nat):List (List Int):=if (vn b.base (b.batches.take n)).1 = .no then (vn b.base (b.batches.take n)).2.given else []
theorem qyv {base:qa}:∀ (bs:List (List qr)) (k:Nat) (r:RunV),k+bs.length≤14000→LB (300000+40 * k) r.l→LM r.l→LI r.l→LB 860000 (vu bs r).2.l∧LM (vu bs r).2.l∧LI (vu bs r).2.l
 | [],k,r,hk,h1,h2,h3=>⟨qf1 h1 (by simp at hk;omega) (by omega),h2,h3⟩
 |b::q,k,r,hk,h1,h2,h3=>by
  simp only [List.length_cons] at hk;unfold vu;split
  ·exact qyv (base:=base) q (k+1) _ (by omega) (qf1 (q1c h1 (by omega) b) (by omega) (by omega)) (zak h2 h1 (by omega) b) (zjj h3 b)
  ·exact⟨qf1 h1 (by omega) (by omega),h2,h3⟩
theorem zfa (base:qa) (bs:List (List qr)) (h:bs.length≤14000):LB 860000 (vn base bs).2.l∧LM (vn base bs).2.l∧LI (vn base bs).2.l:=by
 unfold vn;split
 ·exact qyv (base:=base) bs 0 _ (by omega) (qpn base) (zbc _) (zj4 base)
 ·exact⟨⟨by omega,by simp [ofF],by simp [ofF],by simp [ofF],by simp [ofF],by simp [ofF]⟩,by simp [ofF,LM,cntF],by simp [ofF,LI]⟩
theorem qn9 (b:vz) (n:Nat) (st:List AObj) (hB:BkB b) (hn:n≤b.batches.length):qo E 62 [qbx b,Iv n] st fun r st'=>r = .tu [ve (lR b n),q1y (gR b n),Iv (vn b.base (b.batches.take n)).1.pos,Iv (vn b.base (b.batches.take n)).1.code]∧st'=st:=by
 refine zg [.a (qbx b),.i n] (qj9 (yr _) (qrg _) (qq _) (qq _)) Tryz.func62 rfl rfl (fun _=>rfl) rfl fun S0=>?_;have bc:=fun st=>zb7 b.base st hB.base;have mq:=qpn b.base;have hlm:=zbc (itsE b.base);have bn:=hB.len;have hbs:(b.batches.take n).length=n:=by simp;omega
 have pr:∀ x∈b.batches.take n,BB x∧x.length≤5000:=fun x hx=>hB.bat x (List.mem_of_mem_take hx)
 have hix:∀ k,k<n→∃ x,(b.batches.take n)[k]? = some x∧(b.batches.map jo)[k]? = some (jo x)∧(b.batches.take n).drop k=x::(b.batches.take n).drop (k+1)∧BB x:=fun k hk=>by
  have h1:(b.batches.take n)[k]? = some (b.batches.take n)[k]:=List.getElem?_eq_getElem (by omega);refine⟨_,h1,?_,by rw [List.drop_eq_getElem_cons (by omega)],(pr _ (List.getElem_mem _)).1⟩;rw [List.getElem?_map];have h2:(b.batches.take n)[k]? = b.batches[k]?:=by rw [List.getElem?_take,if_pos hk]
  rw [← h2,h1]
  try rfl
 unfold lR gR vn ofR at *;generalize b.batches.take n=bs at hbs hix;generalize itsE b.base=its at mq bc hlm;by_cases he:z8 b.base = .no
 ·rw [he] at bc
  simp only [if_pos he];rw [if_pos rfl] at bc;apply qd [];repeat' (first|apply And.intro|(intro h;try exact cDd)|exact⟨Tryz.call36⟩|refine cpe bc ?_|exact cSd|apply qb []|refine exr ?_|refine qe ?_)
  refine zw (X:=Nat×RunV) (fun (k,r)=>⟨[(1,.i n),(2,.a (.pp [Iv b.gen,Sv b.base,qfk b.batches,yf b.ends,Sv b.tail])),(4,.bx 0 0),(8,.bx 1 0),(11,.tp 2),(12,.i k)],[(0,some (.cells 75 [.a zp,.i 0])),(1,some (.cells 75 [.a (qdt r.l.ents),.i r.l.next])),(2,some (.tip 1 32 (r.given.map yf)))],3⟩)
   (fun (k,r)=>k≤n∧LB (300000+40 * k) r.l∧LM r.l∧r.given.length=k∧vu (bs.drop k) r=vu bs ⟨ofF its,[],[]⟩) (fun (k,r)=>n - k) (0,⟨ofF its,[],[]⟩) ⟨by omega,mq,hlm,rfl,rfl⟩ ?_ ?_
  ·skip
   repeat' (first|apply And.intro|(intro h;try exact cDd)|exact cSd|apply qb []|refine exr ?_|refine qe ?_)
   all_goals first|rfl|(simp;done)
  ·rintro⟨k,r⟩ ⟨hk,hq,hqm,hgl,a4⟩
   by_cases b8:k<n
   ·obtain⟨x,hx,c8,td,rp⟩:=hix k b8
    rw [td,vu] at a4;have px:=fun st=>zb3 (300000+40 * k) r.l x st hq hqm (by omega) rp.2 rp.1;have hgm:(r.given.map yf).length=k:=by simp [hgl]
    unfold doR at px;by_cases hok:(doF r.l x).1 = .no
    ·rw [if_pos hok] at a4
     simp only [if_pos hok] at px;have hgl2:(qca r x).given.length=k+1:=by simp [qca,hgl]
     have hlb3:LB (300000+40 * (k+1)) (qca r x).l:=qf1 (q1c hq (by omega) x) (by omega) (by omega);have hlm3:LM (qca r x).l:=zak hqm hq (by omega) x;apply qd [];repeat' (first|apply And.intro|(intro h;try exact cDd)|(refine Exists.intro (k) ⟨by omega,_,c8,?_⟩)|exact⟨Tryz.call47⟩|refine cpe px ?_|(refine Exists.intro (k+1,qca r x) ⟨⟨by omega,hlb3,hlm3,hgl2,a4⟩,by simp only;omega,?_⟩)|exact cSd|apply qb []|refine exr ?_|refine qe ?_)
     all_goals first|(simp [qca];done)|(simp [qca];omega)
    ·rw [if_neg hok] at a4
     rw [← a4];simp only [if_neg hok] at px;have s8:=zd4 hok;generalize (doF r.l x).1.code=c at px s8;simp only [reduceCtorEq,if_false,hgl];apply qd [];repeat' (first|apply And.intro|(intro h;try exact cDd)|(refine Exists.intro (k) ⟨by omega,_,c8,?_⟩)|exact⟨Tryz.call47⟩|refine cpe px ?_|exact cSd|apply qb []|refine exr ?_|refine qe ?_)
   ·have b8:k=n:=by omega
    subst b8;rw [List.drop_of_length_le (by omega),vu] at a4;rw [← a4,if_pos rfl];apply qd [];repeat' (first|apply And.intro|(intro h;try exact cDd)|exact cSd|apply qb []|refine exr ?_|refine qe ?_)
 ·simp only [if_neg he] at bc ⊢
  obtain⟨its',p,m,s4,hp,hm,fc⟩:=qpw b.base hB.base;have hz:m≠0:=fun h=>he (fc.1 h);rw [← hp,← hm] at bc ⊢;apply qd [];repeat' (first|apply And.intro|(intro h;try exact cDd)|exact⟨Tryz.call36⟩|refine cpe bc ?_|exact cSd|apply qb []|refine exr ?_|refine qe ?_)
theorem zb8 (b:vz) (st:List AObj) (hB:BkB b):qo E 111 [qbx b] st fun r st'=>r = .tu [ve (lR b b.batches.length),Iv (vn b.base b.batches).1.pos,Iv (vn b.base b.batches).1.code]∧st'=st:=by
 refine zg [.a (qbx b)] (yy (yr _) (qq _) (qq _)) Tryz.func111 rfl rfl (fun _=>rfl) rfl fun S0=>?_;have h1:=fun st=>qn9 b b.batches.length st hB (Nat.le_refl _);rw [List.take_length] at h1;have e8:(b.batches.map jo).length=b.batches.length:=by simp
 rw [← e8] at h1 ⊢;apply qd [];repeat' (first|apply And.intro|(intro h;try exact cDd)|exact⟨Tryz.call62⟩|refine cpe h1 ?_|exact cSd|apply qb []|refine exr ?_|refine qe ?_)
theorem qy3 {text:qa} (h:(jq text).1 = .no):BkB (jq text).2:=qms (qjs (text:=text) (b:=(jq text).2) (by rw [← h]))
theorem ze2 {text:qa} (h:z8 text≠.no):(z8 text).code≠0:=by
 cases bj:z8 text with
 |no=>exact absurd bj h
 |num n=>have:=qnf bj;simp [ErrV.code];omega
 |at' a n=>have:=qpq bj;simpa [ErrV.code] using this
theorem qn7:∀ (bs:List (List qr)) (r:RunV),(vu bs r).1≠.no→(vu bs r).1.code≠0
 | [],r,h=>by simp [vu] at h
 |b::q,r,h=>by
  unfold vu at h ⊢;split
  ·rename_i he
   rw [if_pos he] at h;exact qn7 q _ h
  ·exact (by decide:(10:Int)≠0)
theorem qu4 {base:qa} {bs:List (List qr)} (h:(vn base bs).1≠.no):(vn base bs).1.code≠0:=by
 unfold vn at h ⊢;split
 ·rename_i he
  rw [if_pos he] at h;exact qn7 _ _ h
 ·rename_i he
  exact ze2 he
def qvl (q:ErrV×vz×qz):AV:=.tu [qbx q.2.1,ve (if q.1 = .no then q.2.2 else⟨[],0,0⟩),Iv q.1.pos,Iv q.1.code]
theorem qrw (text:qa) (st:List AObj) (hl:text.length<1000000):qo E 57 [Sv text] st fun r st'=>r=qvl (zy text)∧st'=st:=by
 refine zg [.s text] (qj9 (qgm _) (yr _) (qq _) (qq _)) Tryz.func57 rfl rfl (fun _=>rfl) rfl fun S0=>?_;have m9:=fun st=>q5f text st hl;unfold zy qvl;by_cases hb:(jq text).1 = .no
 ·have hBk:=qy3 hb
  have hpr:z8 (jq text).2.base = .no:=(qjs (text:=text) (b:=(jq text).2) (by rw [← hb])).parse;simp only [if_pos hb];unfold qcj at m9;rw [hb] at m9;generalize (jq text).2=b at m9 hBk hpr;have bc:=fun st=>zb8 b st hBk;have hlr:lR b b.batches.length=(vn b.base b.batches).2.l:=by unfold lR;rw [if_pos hpr,List.take_length]
  rw [hlr] at bc;have s8:=@qu4 b.base b.batches;generalize vn b.base b.batches=p at bc s8;obtain⟨e,r⟩:=p;dsimp only at bc s8 ⊢;by_cases he:e = .no
  ·subst he
   rw [if_pos rfl];apply qd [];repeat' (first|apply And.intro|(intro h;try exact cDd)|exact⟨Tryz.call105⟩|refine cpe m9 ?_|exact⟨Tryz.call111⟩|refine cpe bc ?_|exact cSd|apply qb []|refine exr ?_|refine qe ?_)
  ·have s8:=s8 he
   simp only [if_neg he];generalize e.code=c at bc s8;generalize e.pos=c2 at bc;unfold qaj;apply qd [];repeat' (first|apply And.intro|(intro h;try exact cDd)|exact⟨Tryz.call105⟩|refine cpe m9 ?_|exact⟨Tryz.call111⟩|refine cpe bc ?_|exact cSd|apply qb []|refine exr ?_|refine qe ?_)
 ·have s8:=qtp hb
  simp only [if_neg hb];unfold qcj at m9;generalize (jq text).1.code=c at m9 s8;generalize (jq text).1.pos=c2 at m9;unfold qaj;apply qd [];repeat' (first|apply And.intro|(intro h;try exact cDd)|exact⟨Tryz.call105⟩|refine cpe m9 ?_|exact cSd|apply qb []|refine exr ?_|refine qe ?_)
def qml:qa:=[65,58,32,49,10]
theorem qgw (text:qa):LB 860000 (zy text).2.2∧LI (zy text).2.2:=by
 have h0:LB 860000 (ofF [])∧LI (ofF []):=⟨⟨by omega,by simp [ofF],by simp [ofF],by simp [ofF],by simp [ofF],by simp [ofF]⟩,by simp [ofF,LI]⟩;unfold zy;split
 ·rename_i hb
  have hBk:=qy3 hb;split
  ·have:=zfa (jq text).2.base (jq text).2.batches hBk.len
   exact⟨this.1,this.2.2⟩
  ·exact h0
 ·exact h0
theorem zbh {e:ErrV} (h:e≠.no→e.code≠0):okE e:=by
 cases e with
 |no=>trivial
 |num n=>exact h (by simp)
 |at' a n=>exact h (by simp)
theorem qhy {text:qa} (h:(zy text).1≠.no):(zy text).1.code≠0:=by
 unfold zy at h ⊢;split
 ·rename_i hb
  rw [if_pos hb] at h;split
  ·rename_i hp
   rw [if_pos hp] at h;exact absurd rfl h
  ·rename_i hp
   exact qu4 hp
 ·rename_i hb
  exact qtp hb
end Go.Proofs.YtneejjefekdgjaaGreatDoor
namespace Go.Pl
open Go Go.Proofs
def qb4:List EntV→Option (EntV×List EntV)
 | []=>none
 |e::r=>if 0<e.id then some (e,r) else qb4 r
def stzF (es:List EntV):List (Int×List Fld):=(es.filter fun e=>decide (0<e.id)).map fun e=>(e.id,e.x.fields)
theorem qut:∀ {r:List EntV},qb4 r=none→stzF r=[]
 | [],_=>rfl
 |e::r,h=>by
  unfold qb4 at h;split at h
  ·simp at h
  ·rename_i h0
   have:=qut h
   simpa [stzF,h0] using this
theorem quu:∀ {r:List EntV} {e:EntV} {q:List EntV},qb4 r=some (e,q)→0<e.id∧e∈r∧stzF r=(e.id,e.x.fields)::stzF q∧q.length<r.length∧∀ y∈q,y∈r
 |x::r,e,q,h=>by
  unfold qb4 at h;split at h
  ·rename_i h0
   simp only [Option.some.injEq,Prod.mk.injEq] at h;obtain⟨rfl,rfl⟩:=h;exact⟨h0,by simp,by simp [stzF,h0],by simp,fun y hy=>by simp [hy]⟩
  ·rename_i h0
   obtain⟨h1,h2,h3,h4,h5⟩:=quu h;exact⟨h1,by simp [h2],by simpa [stzF,h0] using h3,by simp;omega,fun y hy=>by simp [h5 y hy]⟩
end Go.Pl
namespace Go.Proofs.YtneejjefekdgjaaGreatDoor
open Go Go.Av Go.RowKit Go.Proofs Go.Pl
theorem zj6 {m:Nat} {T:TypeId} {S':List AObj} {cs0:List AV} (h:S'.length=m∨∃ cs,S'[m]? = some (.cells 0 T cs)):∃ cs,(S'++[AObj.cells 0 T cs0])[m]? = some (.cells 0 T cs):=by
 rcases h with rfl | ⟨cs,h⟩
 ·exact⟨cs0,by simp⟩
 ·exact⟨cs,by rw [List.getElem?_append_left (lt_of_getElem? h)];exact h⟩
theorem zj7 {m:Nat} {T:TypeId} {S':List AObj} (h:S'.length=m∨∃ cs,S'[m]? = some (.cells 0 T cs)):m≤S'.length:=by
 rcases h with rfl | ⟨cs,h⟩
 ·omega
 ·exact Nat.le_of_lt (lt_of_getElem? h)
theorem qw3 {L:List (Tmp×AV)} {st:List AObj} {df:List Nat} {s:AS} (h:StA L st df s):StA L (st++[]) df s:=by
 rw [List.append_nil];exact h
theorem zgp (l:qz) (o kb n m:Nat) (I:List EntV→List AObj→Prop) (D:List AObj→Prop) (S:List AObj) (hm:S.length=m) (hn:n≤m) (hl:l.ents.length<1000000) (h0:I l.ents S)
  (hI:∀ r S',I r S'→S'[kb]? = some (.cells 0 42 [vm l]))
  (b7:∀ r S' S'',Ext n S' S''→I r S'→I r S'')
  (hY:∀ r e q S' cs,I r S'→S'[m]? = some (.cells 0 152 cs)→qb4 r=some (e,q)→y9 E o [entA e] S' fun b S''=>S''[m]? = some (.cells 0 152 cs)∧(b=true→I q S'')∧(b=false→D S'')) :
  qo E 128 [.yd o,.bx kb 0 0] S fun r S'=>(∃ i,qb4 i=none∧I i S')∨D S':=by
 refine qp Tryz.func128 rfl (Nat.le_of_ble_eq_true rfl) ?_;have hb:=hI _ S h0;have lj:(l.ents.map entA).length=l.ents.length:=by simp
 repeat' (first|apply qn|apply qy|apply qf|apply qh|apply qj|(apply qc;exact rfl;apply cd_f;exact cRa)|(apply jm;(iterate 4 exact rfl))|(apply xy;(iterate 4 exact rfl))|(apply jn;(iterate 3 exact rfl))|(apply wm;exact rfl;exact rfl)|(apply qax;(iterate 3 exact rfl))|apply qw|(apply qbn;exact rfl;exact rfl;exact hb;exact rfl;exact rfl))
 refine jv (fun (k:Nat) s=>∃ S' r,I r S'∧(S'.length=m∨∃ cs,S'[m]? = some (.cells 0 152 cs))∧k≤l.ents.length∧qb4 r=qb4 (l.ents.drop k)∧StA [(0,.yd o),(10,.sl 4 (l.ents.map entA) none),(11,Iv l.ents.length),(12,Iv k)] (S'++[]) [] s) (fun k=>l.ents.length - k) 0
  ⟨_,_,b7 _ _ _ (qjj (by omega)) h0,.inl (by simpa using hm),by omega,by simp,qw3 (zz ⟨rfl,rfl,congrArg (fun n:Nat=>Iv (n:Int)) lj,rfl,trivial⟩)⟩ ?_
 rintro k _ ⟨S',r,hi,cd,hk,r7,t,rfl⟩;have e8:=zj7 cd;by_cases b8:k<l.ents.length
 ·have hx:l.ents[k]? = some l.ents[k]:=List.getElem?_eq_getElem b8
  have c8:(l.ents.map entA)[k]? = some (entA l.ents[k]):=by rw [List.getElem?_map,hx];rfl
  rw [List.drop_eq_getElem_cons b8,qb4] at r7;generalize l.ents[k]=e at hx c8 r7;obtain⟨cs,nw⟩:=zj6 (cs0:=(entA e).cells) cd;by_cases he:0<e.id
  ·rw [if_pos he] at r7
   repeat' (first|apply qn|apply qy|apply qf|apply qh|apply qj|(apply qs;(iterate 3 exact rfl))|(apply qu;(iterate 4 exact rfl))|(apply wy;exact cAo)|(apply qc;exact rfl;apply vf;exact cAo)|(apply jw;exact rfl;exact rfl)|(apply zj;(iterate 3 exact rfl))|(apply jn;(iterate 3 exact rfl))|(apply jl;(iterate 5 exact rfl))|(apply z4;(iterate 11 exact rfl))|apply qw|(apply kp (n:=k);(iterate 5 exact rfl);exact c8))
   apply qee (o:=o) rfl;refine y9.mono (hY r e _ _ cs (b7 _ _ _ (qjj (by omega)) hi) nw r7) ?_;rintro b S2 ⟨h1,h2,h3⟩
   show AOps _ _ _ _ _ _ _
   cases b
   ·skip
    repeat' (first|apply qh|(apply z7;exact rfl)|(apply qu;(iterate 4 exact rfl))|(apply wy;exact cAo)|(apply qi;exact rfl;apply wt;exact cAo)|(apply qc;exact rfl;apply qi0;exact cRa)|apply qt)
    exact qm rfl (qao rfl) (.inr (h3 rfl))
   ·skip
    repeat' (first|apply qf|apply qh|apply qj|(apply z7;exact rfl)|(apply qu;(iterate 4 exact rfl))|(apply wy;exact cAo)|(apply qi;exact rfl;apply wt;exact cAo)|(apply qc;exact rfl;apply qiz;exact cRa)|(apply zl;exact rfl;exact rfl;exact q6 (by omega) (by omega))|apply qw)
    exact⟨k+1,⟨_,_,h2 rfl,.inr ⟨cs,h1⟩,by omega,rfl,qw3 (zz ⟨rfl,rfl,rfl,rfl,trivial⟩)⟩,by omega⟩
  ·rw [if_neg he] at r7
   repeat' (first|apply qn|apply qy|apply qf|apply qh|apply qj|(apply qs;(iterate 3 exact rfl))|(apply qu;(iterate 4 exact rfl))|(apply xb;exact cAo)|(apply qi;exact rfl;apply wj;exact cAo)|(apply qc;exact rfl;apply vf;exact cAo)|(apply qc;exact rfl;apply cd_f;exact cRa)|(apply zl;exact rfl;exact rfl;exact q6 (by omega) (by omega))|(apply jw;exact rfl;exact rfl)|(apply zj;(iterate 3 exact rfl))|(apply jn;(iterate 3 exact rfl))|(apply jl;(iterate 5 exact rfl))|(apply z4;(iterate 11 exact rfl))|apply qw|(apply kp (n:=k);(iterate 5 exact rfl);exact c8))
   exact⟨k+1,⟨_,_,b7 _ _ _ (qjj (by omega)) hi,.inr ⟨cs,nw⟩,by omega,r7,qw3 (zz ⟨rfl,rfl,rfl,rfl,trivial⟩)⟩,by omega⟩
 ·rw [List.drop_of_length_le (by omega),qb4] at r7
  repeat' (first|apply qn|apply qf|apply qh|(apply qs;(iterate 3 exact rfl))|(apply qc;exact rfl;apply vr;exact cAo)|apply jd)
  exact qm rfl (qao rfl) (.inl ⟨r,r7,b7 _ _ _ (qjj (by omega)) hi⟩)
def allY (r:List EntV):Option (SV×List EntV):=(qb4 r).map fun x=>(.a (entA x.1),x.2)
theorem zi5 (l:qz) (hl:l.ents.length<1000000):ItC 128 42 [vm l] (evY allY) l.ents:=⟨fun o kb n m I D S hm hn h0 hI b7 hY=>by
 refine (zgp l o kb n m I D S hm hn hl h0 hI b7 fun r e q S' cs hi cd hx=>?_).mono ?_
 ·refine (hY r (entA e) q S' [.cells 0 152 cs] hi (fun j y hy=>?_) (by simp [evY,allY,hx,SV.ev])).mono fun b S'' ⟨h1,h2,h3⟩=>⟨by have:=h1 0 _ rfl;simpa using this,h2,h3⟩
  match j with
  | 0=>
   simp only [List.getElem?_cons_zero,Option.some.injEq] at hy;subst hy
   exact⟨cd,qas rfl⟩
  |j+1=>simp at hy
 ·rintro r S' (⟨i,h1,h2⟩|h)
  ·exact .inl ⟨i,by simp [evY,allY,h1],h2⟩
  ·exact .inr h⟩
theorem zjt (l:qz):v4 E 70 [.a (vm l)] 0 (hpF []) ⟨.fn (.func 128) [] [.bx 0 0],wb [],[(0,some (.cells 42 [.a (vm l)]))]++ww [],1⟩:=by
 refine yj [.a (vm l)] [] 0 (.fn (.func 128) [] [.bx 0 0]) [(0,some (.cells 42 [.a (vm l)]))] 1 Tryz.func70 rfl rfl rfl rfl fun S F ρ=>?_;apply qd [1];repeat' (first|apply And.intro|(intro h;try exact cDd)|exact cSd|apply qb [1]|refine exr ?_|refine qe ?_)
@[reducible] def stzA (x : Int × List Fld) : AV := .ag [Iv x.1, jr x.2]
@[reducible] def q9d (s : List (Int × List Fld)) : AV := .sl 2 (s.map stzA) none
theorem q9e (s:List (Int×List Fld)):Pure (q9d s):=qbq fun x hx=>by
 obtain⟨f,_,rfl⟩:=List.mem_map.1 hx;intro y hy;simp only [AV.cells,List.mem_cons,List.not_mem_nil,or_false] at hy;rcases hy with rfl|rfl
 ·exact qq _
 ·exact qb2 _
theorem q3s (es:List EntV):(stzF es).length≤es.length:=by
 unfold stzF;rw [List.length_map];exact List.length_filter_le _ _
theorem q3n {N:Nat} {B:Bs} {C:Conf} {Q:Exit→Conf→Prop} {X:Type} {f:Operand} {p:Tmp} {asg body:Code} (l:qz) (kb n0:Nat) (ks:List Nat) (I:X→Conf) (sl0:List (Nat×SV)) (P:List EntV→X→Prop) (D:Code→X→Prop) (x0:X) (h0:P l.ents x0)
  (he:EntA B.n0 C (I x0)) (hz:¬ B.dz) (hl:l.ents.length<1000000) (cx:∀ x,(I x).sl=sl0)
  (hf:sval N sl0 f=some (.fn (.func 128) [] [.bx kb 0]))
  (hkb:∀ x,lkS (I x).hp kb=some (some (.cells 42 [.a (vm l)])))
  (hr:∀ x,qdb n0 ks (I x).sl (I x).hp (I x).nx=true) (h0r:(ksIn n0 ks (I x0).hp && Nat.ble B.n0 n0)=true)
  (hb:∀ r e q x,P r x→qb4 r=some (e,q)→RA E N n0 asg (fun F ρ C1=>RB E N F ρ n0 body (rndQ n0 (P q) D I) C1) ⟨(p,.a (entA e))::(I x).sl,(I x).hp,(I x).nx⟩)
  (hn:∀ r x,qb4 r=none→P r x→Q .normal (I x)) (hd:∀ c x,D c x→q7v Q c (I x)):Sm E none N B (.rangeFunc f #[p] asg body) Q C:=by
 refine qrx (zi5 l hl) Tryz.call128 (fun i v j h=>?_) kb n0 [.a (vm l)] (fun _=>rfl) ks I sl0 P D x0 h0 he hz cx hf hkb hr h0r (fun i x v j hp h=>?_) (fun i x h hp=>?_) hd
 ·unfold allY at h
  cases hx:qb4 i with
  |none=>rw [hx] at h;simp at h
  |some y=>
   rw [hx] at h;simp only [Option.map_some,Option.some.injEq,Prod.mk.injEq] at h;rw [← h.1]
   try rfl
 ·unfold allY at h
  cases hx:qb4 i with
  |none=>rw [hx] at h;simp at h
  |some y=>
   rw [hx] at h;simp only [Option.map_some,Option.some.injEq,Prod.mk.injEq] at h;obtain⟨h1,h2⟩:=h;rw [← h1,← h2];exact hb i y.1 y.2 x hp hx
 ·unfold allY at h
  cases hx:qb4 i with
  |none=>exact hn i x hx hp
  |some y=>rw [hx] at h;simp at h
theorem q8k (l:qz) (st:List AObj) (hl:l.ents.length<1000000) (hI:∀ e∈l.ents,e.x.fields.length<1000000):qo E 25 [vm l] st fun r st'=>r=q9d (stzF l.ents)∧st'=st:=by
 refine zg [.a (vm l)] (q9e _) Tryz.func25 rfl rfl (fun _=>rfl) rfl fun S0=>?_;apply qd [];repeat' (first|apply And.intro|(intro h;try exact cDd)|exact⟨Tryz.call70⟩|(refine j6 (zjt l) ?_)|exact cSd|apply qb []|refine exr ?_|refine qe ?_)
 refine q3n (X:=List (Int×List Fld)) l 1 2 [0,1] (fun out=>⟨[(3,.bx 0 0),(6,.fn (.func 128) [] [.bx 1 0])],[(0,some (.cells 55 [.tp 2])),(1,some (.cells 42 [.a (vm l)])),(2,some (.tip 2 59 (out.map stzA)))],3⟩) _
  (fun r out=>out++stzF r=stzF l.ents∧out.length+r.length≤l.ents.length∧∀ y∈r,y∈l.ents) (fun _ _=>False) [] ⟨by simp,by simp,fun _ h=>h⟩ ?_ id hl (fun _=>rfl) rfl (fun _=>rfl) (fun _=>rfl) rfl ?_ ?_ (fun _ _ h=>h.elim)
 ·skip
  repeat' (first|apply And.intro|(intro h;try exact cDd)|exact cSd|apply qb []|refine exr ?_|refine qe ?_)
 ·rintro r e q out ⟨h1,h2,h3⟩ hx
  obtain⟨g1,g2,g3,g4,g5⟩:=quu hx;rw [g3] at h1;have cz:=fun st=>qi1 e.x.fields st (hI e (h3 e g2));have e8:(out.map stzA).length=out.length:=by simp
  refine RA.mk fun S F ρ rd=>?_;apply qd [];repeat' (first|apply And.intro|(intro h;try exact cDd)|(refine RB.mk fun S rd=>?_;apply qd [])|exact⟨Tryz.call71⟩|refine cpe cz ?_|(refine Exists.intro (out++[(e.id,e.x.fields)]) ⟨⟨by rw [← h1];simp,by simp;omega,fun y hy=>h3 y (g5 y hy)⟩,?_⟩)|exact cSd|apply qb []|refine exr ?_|refine qe ?_)
  all_goals first|(simp [SV.evs,SV.ev];done)|(simp [SV.evs];omega)
 ·rintro r out hx ⟨h1,h2,h3⟩
  rw [qut hx,List.append_nil] at h1;rw [← h1];repeat' (first|apply And.intro|(intro h;try exact cDd)|exact cSd|apply qb []|refine exr ?_|refine qe ?_)
theorem q00 {b:vz} (hp:z8 b.base = .no):qg3 b 0=(.no,⟨ofF (itsE b.base),[],[]⟩):=by
 unfold qg3;rw [if_neg (by omega)];unfold vn;rw [if_pos hp]
 try rfl
end Go.Proofs.YtneejjefekdgjaaGreatDoor
namespace Go.Pl
open Go Go.Proofs Go.Av
def rawG (l:qz) (id:Int):Option qa:=(l.ents.find? fun e=>decide (e.id=id)).map fun e=>e.x.raw
theorem q1z (id:Int):∀ (es:List EntV) (k:Nat),(wo id k es = -1∧es.find? (fun e=>decide (e.id=id))=none)∨∃ i e,wo id k es=((k+i:Nat):Int)∧es[i]? = some e∧es.find? (fun e=>decide (e.id=id))=some e
 | [],k=>.inl ⟨rfl,rfl⟩
 |e::r,k=>by
  unfold wo;by_cases h:e.id=id
  ·rw [if_pos h,List.find?_cons_of_pos (by simp [h])]
   exact .inr ⟨0,e,by simp,rfl,rfl⟩
  ·rw [if_neg h,List.find?_cons_of_neg (by simp [h])]
   rcases q1z id r (k+1) with g | ⟨i,e',g1,g2,g3⟩
   ·exact .inl g
   ·exact .inr ⟨i+1,e',by rw [g1];congr 1;omega,by simpa using g2,g3⟩
theorem zih {l:qz} {id:Int} (h:1≤id):rawF l id=match rawG l id with
  |some x=>(x,true)
  |none=>([],false):=by
 unfold rawF rawG atF;rw [if_neg (by omega)];rcases q1z id l.ents 0 with⟨g1,g2⟩ | ⟨i,e,g1,g2,g3⟩
 ·rw [g1,g2]
  simp only [Option.map_none];split
  ·rw [if_pos (by decide)]
  ·rfl
 ·rw [g1,g3,Nat.zero_add,Int.toNat_natCast,g2]
  simp only [Option.map_some];rw [if_neg (by omega)]
end Go.Pl
namespace Go.Pl
open Go Go.Proofs Go.Proofs.YtneejjefekdgjaaGreatDoor
def wn (text:qa):ErrV×qa:=
 if (zy text).1 = .no then
  (if 2147483648≤(zy text).2.1.gen then (.num 1,[]) else if 60000<(qav (zy text).2.2).length then (.num 11,[]) else qia ((zy text).2.1.gen+1) (qav (zy text).2.2))
 else ((zy text).1,[])
theorem qhc {text:qa} (h:(zy text).1 = .no):qbk text (zy text).2.1∧GL (zy text).2.2∧((zy text).2.1.gen=0∨ke (zy text).2.1.gen):=by
 unfold zy at h ⊢;by_cases h1:(jq text).1 = .no
 ·rw [if_pos h1] at h ⊢
  by_cases h2:(vn (jq text).2.base (jq text).2.batches).1 = .no
  ·rw [if_pos h2] at h ⊢
   have hb:=qjs (text:=text) (b:=(jq text).2) (by rw [← h1]);refine⟨hb,ze8 _ _ hb.parse,?_⟩;have:=(qfa text).2;rw [hb.gen] at this;exact this
  ·rw [if_neg h2] at h
   exact absurd h h2
 ·rw [if_neg h1] at h
  exact absurd h h1
theorem q5r {l:qz} (h:GL l) (hl:(qav l).length≤60000):z8 (qav l) = .no:=by
 unfold z8;rw [if_neg (by omega),zcx h]
theorem qm1 {n:Int} (h:n=0∨ke n) (h2:¬ 2147483648≤n):ke (n+1):=by
 unfold ke at h ⊢;omega
theorem q8e {n:Int} (h:ke n):vl n=wi n:=by
 unfold vl;rw [if_pos h]
theorem zed {l:qz} {n:Int} (h:GL l) (hg:ke n) (hl:(qav l).length≤60000):qia n (qav l)=(.no,wi n++qav l):=by
 rw [zat,if_neg (by simp [hg]),if_pos (q5r h hl),q8e hg]
theorem qo4 {text:qa}:wn text=if (zy text).1 = .no then
  (if (zy text).2.1.gen=2147483648 then (.num 1,[]) else if 60000<(qav (zy text).2.2).length then (.num 11,[]) else (.no,wi ((zy text).2.1.gen+1)++qav (zy text).2.2))
 else ((zy text).1,[]):=by
 unfold wn;by_cases h:(zy text).1 = .no
 ·obtain⟨_,h2,h3⟩:=qhc h
  rw [if_pos h,if_pos h];by_cases hm:2147483648≤(zy text).2.1.gen
  ·have he:(zy text).2.1.gen=2147483648:=by
    unfold ke at h3;omega
   rw [if_pos hm,if_pos he]
  ·rw [if_neg hm,if_neg (by omega:¬ (zy text).2.1.gen=2147483648)]
   split
   ·rfl
   ·exact zed h2 (qm1 h3 hm) (by omega)
 ·rw [if_neg h,if_neg h]
def idsL (es:List EntV):List Int:=(es.filter fun e=>decide (0<e.id)).map fun e=>e.id
theorem qc8 (a b:List EntV):idsL (a++b)=idsL a++idsL b:=by simp [idsL]
theorem qic (e:EntV) (b:List EntV):idsL (e::b)=if 0<e.id then e.id::idsL b else idsL b:=by
 unfold idsL;by_cases h:0<e.id
 ·rw [if_pos h,List.filter_cons_of_pos (by simpa using h)];rfl
 ·rw [if_neg h,List.filter_cons_of_neg (by simpa using h)]
theorem qnb {es:List EntV} {n:Int}:n∈idsL es↔0<n∧∃ e∈es,e.id=n:=by
 unfold idsL;simp only [List.mem_map,List.mem_filter,decide_eq_true_eq];constructor
 ·rintro⟨e,⟨he,h⟩,rfl⟩
  exact⟨h,e,he,rfl⟩
 ·rintro⟨h,e,he,rfl⟩
  exact⟨e,⟨he,h⟩,rfl⟩
structure GN (l:qz):Prop where
 nd:(idsL l.ents).Nodup
 lt:∀ e∈l.ents,e.id<l.next
 nx:1≤l.next
theorem zbg {l:qz} {x:ze} (h:GN l):GN (xl l x):=by
 obtain⟨h1,h2,h3⟩:=h;unfold xl;split
 ·refine⟨?_,fun e he=>?_,by simp only;omega⟩
  ·simp only
   rw [qc8,qic,if_pos (by simp only;omega)];refine List.nodup_append.2 ⟨h1,by simp [idsL],fun a ha b hb=>?_⟩;obtain⟨_,e,he,rfl⟩:=qnb.1 ha;have:=h2 e he;simp [idsL] at hb;omega
  ·rcases List.mem_append.1 he with he|he
   ·have:=h2 e he;simp only;omega
   ·simp only [List.mem_cons,List.not_mem_nil,or_false] at he;subst he;simp only;omega
 ·refine⟨?_,fun e he=>?_,h3⟩
  ·simp only
   rw [qc8,qic,if_neg (by simp)]
   simpa [idsL] using h1
  ·rcases List.mem_append.1 he with he|he
   ·exact h2 e he
   ·simp only [List.mem_cons,List.not_mem_nil,or_false] at he;subst he;simp only;omega
theorem qyn:∀ (its:List ze) (l:qz),GN l→GN (its.foldl xl l)
 | [],l,h=>h
 |x::r,l,h=>qyn r (xl l x) (zbg h)
theorem zbb (its:List ze):GN (ofF its):=qyn its ⟨[],1,0⟩ ⟨by simp [idsL],by simp,by simp⟩
theorem zeh {es:List EntV} {i:Nat} {e:EntV} {x:ze} (h:es[i]? = some e):idsL (es.set i ⟨x,e.id⟩)=idsL es:=by
 obtain⟨b4,rfl⟩:=List.getElem?_eq_some_iff.1 h;have e1:=List.take_append_drop i es;rw [List.drop_eq_getElem_cons b4] at e1;rw [List.set_eq_take_append_cons_drop,if_pos b4]
 conv=>rhs;rw [← e1]
 rw [qc8,qc8,qic,qic]
theorem zfo {l:qz} (h:GN l) (id:Int) (fs:List Fld):GN (y8 l id fs).2:=by
 unfold y8;split
 ·exact h
 ·split
  ·unfold qlf
   split
   ·rename_i e he
    refine⟨by simp only;rw [zeh he];exact h.nd,fun y hy=>?_,h.nx⟩;rcases List.mem_or_eq_of_mem_set hy with hy|rfl
    ·exact h.lt y hy
    ·exact h.lt e (List.mem_of_getElem? he)
   ·exact h
  ·exact h
theorem zhd {l:qz} (h:GN l) (id:Int):GN (delF l id).2:=by
 unfold delF;split
 ·exact h
 ·generalize (atF l id).toNat=i
  refine⟨?_,fun y hy=>?_,h.nx⟩
  ·have:=h.nd
   rw [← List.take_append_drop i l.ents,qc8] at this;unfold delL;simp only;rw [qc8];refine List.Nodup.sublist (List.Sublist.append (List.Sublist.refl _) ?_) this;unfold idsL;refine List.Sublist.map _ (List.Sublist.filter _ ?_);rw [← List.drop_drop];exact List.drop_sublist 1 _
  ·rcases List.mem_append.1 hy with hy|hy
   ·exact h.lt y (List.mem_of_mem_take hy)
   ·exact h.lt y (List.mem_of_mem_drop hy)
theorem zhq {l:qz} (h:GN l) (id:Int) (fs:List Fld):GN (insF l id fs).2.2:=by
 unfold insF;split
 ·exact h
 ·split
  ·split
   ·exact h
   ·generalize (atF l id+1).toNat=k
    have hn:=h.nx;refine⟨?_,fun y hy=>?_,by simp only [insL];omega⟩
    ·have:=h.nd
     rw [← List.take_append_drop k l.ents,qc8] at this;unfold insL;simp only;rw [qc8,qic,if_pos (by simp only;omega)];refine (List.perm_middle.nodup_iff).2 (List.nodup_cons.2 ⟨fun hm=>?_,this⟩);rw [← qc8,List.take_append_drop] at hm;obtain⟨_,e,he,p4⟩:=qnb.1 hm;have p4:e.id=l.next:=p4;have:=h.lt e he;omega
    ·show y.id<l.next+1
     rcases List.mem_append.1 hy with hy|hy
     ·have:=h.lt y (List.mem_of_mem_take hy);omega
     ·rcases List.mem_cons.1 hy with rfl|hy
      ·simp only;omega
      ·have:=h.lt y (List.mem_of_mem_drop hy);omega
  ·exact h
theorem zia {l:qz} (h:GN l) (x:qr):GN (oneF l x).2.2:=by
 unfold oneF;split
 ·exact zfo h _ _
 ·split
  ·exact zhd h _
  ·exact zhq h _ _
theorem qxz:∀ (b:List qr) (k:Nat) (l:qz) (ids:List Int),GN l→GN (xj k b l ids).2.1
 | [],_,l,_,h=>h
 |x::r,k,l,ids,h=>by
  unfold xj;split
  ·exact qxz r _ _ _ (zia h x)
  ·exact h
theorem zaj {l:qz} (h:GN l) (b:List qr):GN (doF l b).2.1:=by
 unfold doF;split
 ·exact qxz b 0 l [] h
 ·exact h
theorem qrq:∀ (bs:List (List qr)) (r:RunV),GN r.l→GN (vu bs r).2.l
 | [],r,h=>h
 |b::bs,r,h=>by
  unfold vu;split
  ·exact qrq bs _ (zaj h b)
  ·first|exact zaj h b|exact h
theorem ze9 (base:qa) (bs:List (List qr)):GN (vn base bs).2.l:=by
 unfold vn;split
 ·exact qrq bs _ (zbb _)
 ·exact zbb _
def qcm (a b:qz) (id:Int):Bool:=(rawF a id).2 && (rawF b id).2 && decide ((rawF a id).1=(rawF b id).1)
def qkh (a l:qz):List Int:=((stzF l.ents).map Prod.fst).filter fun id=> !qcm a l id
def qp4 (a l:qz):List Int:=((List.range (l.next - 1).toNat).map fun i:Nat=>(i:Int)+1).filter fun id=>(rawF l id).2 && (!(rawF a id).2 ||decide ((rawF a id).1≠(rawF l id).1))
theorem q62 (es:List EntV):(stzF es).map Prod.fst=idsL es:=by
 unfold stzF idsL;rw [List.map_map];rfl
theorem q6v {l:qz} {id:Int} (h:1≤id):(rawF l id).2=true↔id∈idsL l.ents:=by
 rw [zih h,qnb];unfold rawG
 cases hf:l.ents.find? (fun e=>decide (e.id=id)) with
 |none=>
  simp only [Option.map_none,Bool.false_eq_true,false_iff,not_and];rintro _ ⟨e,he,rfl⟩;have:=List.find?_eq_none.1 hf e he
  simp at this
 |some e=>
  simp only [Option.map_some,true_iff];have h1:=List.find?_some hf;have h2:=List.mem_of_find?_eq_some hf;exact⟨by omega,e,h2,by simpa using h1⟩
theorem qvp:∀ {a b:List Int},a.Pairwise (· < ·)→b.Pairwise (· < ·)→(∀ x,x∈a↔x∈b)→a=b
 | [],[],_,_,_=>rfl
 | [],y::b,_,_,h=>absurd ((h y).2 (by simp)) (by simp)
 |x::a,[],_,_,h=>absurd ((h x).1 (by simp)) (by simp)
 |x::a,y::b,ha,hb,h=>by
  obtain⟨a1,a2⟩:=List.pairwise_cons.1 ha;obtain⟨b1,b2⟩:=List.pairwise_cons.1 hb
  have hxy:x=y:=by
   rcases List.mem_cons.1 ((h x).1 (by simp)) with e|e
   ·exact e
   ·rcases List.mem_cons.1 ((h y).2 (by simp)) with e'|e'
    ·exact e'.symm
    ·have:=b1 x e;have:=a1 y e';omega
  subst hxy;rw [qvp a2 b2 fun z=>?_];constructor
  ·intro hz
   rcases List.mem_cons.1 ((h z).1 (by simp [hz])) with e|e
   ·have:=a1 z hz;omega
   ·exact e
  ·intro hz
   rcases List.mem_cons.1 ((h z).2 (by simp [hz])) with e|e
   ·have:=b1 z hz;omega
   ·exact e
theorem zf7 {a l:qz} {r:List Int} (h:GN l) (hp:r.Perm (qkh a l)) (hs:r.Pairwise (·≤·)):r=qp4 a l:=by
 have bt:(qkh a l).Nodup:=by
  unfold qkh;rw [q62];exact h.nd.filter _
 have hr:r.Pairwise (· < ·):=by
  have h1:=hp.nodup_iff.2 bt;refine (hs.and h1).imp fun {x y} hh=>?_;obtain⟨h1,h2⟩:=hh;have h2:x≠y:=h2;omega
 refine qvp hr ?_ fun x=>?_
 ·unfold qp4
  refine List.Pairwise.filter _ (List.pairwise_map.2 ?_);exact List.pairwise_lt_range.imp fun {x y} hh=>by omega
 ·rw [hp.mem_iff]
  unfold qkh qp4 qcm;rw [q62];simp only [List.mem_filter,List.mem_map,List.mem_range];constructor
  ·rintro⟨h1,h2⟩
   obtain⟨h3,e,he,p4⟩:=qnb.1 h1;have b4:=h.lt e he;have pd:=(q6v (l:=l) (by omega:1≤x)).2 h1;refine⟨⟨(x - 1).toNat,by omega,by omega⟩,?_⟩;rw [pd] at h2 ⊢
   simpa using h2
  ·rintro⟨⟨i,hi,rfl⟩,h2⟩
   simp only [Bool.and_eq_true] at h2;refine⟨(q6v (by omega)).1 h2.1,?_⟩;rw [h2.1]
   simpa using h2.2
def runT (text:qa):RunV:=(vn (jq text).2.base (jq text).2.batches).2
end Go.Pl
namespace Go.Pl
open Go Go.Proofs Go.Av Go.Proofs.YtneejjefekdgjaaGreatDoor
def dupS (key:qa) (pre:List (Int×List Fld)) (x:Int×List Fld):Bool:=(qp6 key x.2).any fun v=>pre.any fun y=>decide (v∈qp6 key y.2)
def zdr (r:qdq) (pre:List (Int×List Fld)) (x:Int×List Fld):Prop:=x.2.any (badR r)=true∨(r.kind=1∧cntR r x.2=0)∨(r.kind=2∧1<cntR r x.2)∨(r.kind=7∧dupS r.key pre x=true)
instance (r:qdq) (pre:List (Int×List Fld)) (x:Int×List Fld):Decidable (zdr r pre x):=inferInstanceAs (Decidable (_∨(_∧_)∨(_∧_)∨(_∧_)))
end Go.Pl
namespace Go.Pl
open Go
def i64 (n:Int):Prop:= -9223372036854775808≤n∧n≤9223372036854775807
end Go.Pl
namespace Go.Proofs.YtneejjefekdgjaaGreatDoor
open Go Go.Av Go.RowKit Go.Proofs Go.Pl
theorem qsa (text:qa) (st:List AObj) (hl:text.length<1000000):qo E 12 [Sv text] st fun r st'=>r = .tu [Sv (wn text).2,errA (wn text).1]∧st'=st:=by
 refine zg [.s text] (jg (qq _) (km _)) Tryz.func12 rfl rfl (fun _=>rfl) rfl fun S0=>?_;have n5:=fun st=>q6y text st hl;have hok:=@qhc text;obtain⟨hB,hI⟩:=qgw text;unfold qpx at n5;unfold wn;generalize zy text=q at *;obtain⟨e,b,l⟩:=q
 cases e with
 |num n=>
  dsimp only at n5 ⊢;rw [if_neg (by simp)];apply qd []
  repeat' (first|apply And.intro|(intro h;try exact cDd)|exact⟨Tryz.call21⟩|refine cpe n5 ?_|exact cSd|apply qb []|refine exr ?_|refine qe ?_)
 |at' a n=>
  dsimp only at n5 ⊢;rw [if_neg (by simp)];apply qd []
  repeat' (first|apply And.intro|(intro h;try exact cDd)|exact⟨Tryz.call21⟩|refine cpe n5 ?_|exact cSd|apply qb []|refine exr ?_|refine qe ?_)
 |no=>
  dsimp only at n5 hok hB hI ⊢;rw [if_pos rfl];have hg0:0≤b.gen:=by have:=(hok rfl).2.2;unfold ke at this;omega
  clear hok;have ht:=fun st=>zh4 l st (zhu hB hI) (q3x hB hI);have hf:=fun h st=>zdq (b.gen+1) (qav l) st h;generalize qia (b.gen+1) (qav l)=p at *;generalize qav l=s at *;by_cases h1:2147483648≤b.gen
  ·rw [if_pos h1]
   apply qd [];repeat' (first|apply And.intro|(intro h;try exact cDd)|exact⟨Tryz.call21⟩|refine cpe n5 ?_|exact⟨Tryz.call43⟩|refine cpe ht ?_|exact cSd|apply qb []|refine exr ?_|refine qe ?_)
  ·rw [if_neg h1]
   by_cases h2:60000<s.length
   ·rw [if_pos h2]
    apply qd [];repeat' (first|apply And.intro|(intro h;try exact cDd)|exact⟨Tryz.call21⟩|refine cpe n5 ?_|exact⟨Tryz.call43⟩|refine cpe ht ?_|exact cSd|apply qb []|refine exr ?_|refine qe ?_)
   ·rw [if_neg h2]
    replace hf:=hf (by omega);obtain⟨e,s2⟩:=p
    cases e
    all_goals
     apply qd [];repeat' (first|apply And.intro|(intro h;try exact cDd)|exact⟨Tryz.call21⟩|refine cpe n5 ?_|exact⟨Tryz.call43⟩|refine cpe ht ?_|exact⟨Tryz.call56⟩|refine cpe hf ?_|exact cSd|apply qb []|refine exr ?_|refine qe ?_)
theorem q51 (text:qa) (st:List AObj) (hl:text.length<1000000):qo E 14 [Sv text] st fun r st'=>r = .tu [Iv (wn text).2.length,errA (wn text).1]∧st'=st:=by
 refine zg [.s text] (jg (qq _) (km _)) Tryz.func14 rfl rfl (fun _=>rfl) rfl fun S0=>?_;have hf:=fun st=>qsa text st hl;generalize wn text=p at *;obtain⟨e,s⟩:=p
 cases e
 all_goals
  apply qd [];repeat' (first|apply And.intro|(intro h;try exact cDd)|exact⟨Tryz.call12⟩|refine cpe hf ?_|exact cSd|apply qb []|refine exr ?_|refine qe ?_)
def qpy (text:qa):Int:=if (wn text).1 = .no then (text.length:Int) - (wn text).2.length else 0
theorem zdz (text:qa) (st:List AObj) (hl:text.length<1000000) (hk:(wn text).2.length<1000000):qo E 15 [Sv text] st fun r st'=>r = .tu [Iv (qpy text),errA (wn text).1]∧st'=st:=by
 refine zg [.s text] (jg (qq _) (km _)) Tryz.func15 rfl rfl (fun _=>rfl) rfl fun S0=>?_;have hf:=fun st=>q51 text st hl;unfold qpy;generalize wn text=p at *;obtain⟨e,s⟩:=p;dsimp only at hk
 cases e with
 |no=>
  dsimp only;rw [if_pos rfl];apply qd []
  repeat' (first|apply And.intro|(intro h;try exact cDd)|exact⟨Tryz.call14⟩|refine cpe hf ?_|exact cSd|apply qb []|refine exr ?_|refine qe ?_)
 |num n=>
  dsimp only;rw [if_neg (by simp)];apply qd []
  repeat' (first|apply And.intro|(intro h;try exact cDd)|exact⟨Tryz.call14⟩|refine cpe hf ?_|exact cSd|apply qb []|refine exr ?_|refine qe ?_)
 |at' a n=>
  dsimp only;rw [if_neg (by simp)];apply qd [];repeat' (first|apply And.intro|(intro h;try exact cDd)|exact⟨Tryz.call14⟩|refine cpe hf ?_|exact cSd|apply qb []|refine exr ?_|refine qe ?_)
theorem zg9 (a b:qz) (id:Int) (st:List AObj) (ha:a.ents.length<1000000) (hb:b.ents.length<1000000):qo E 60 [vm a,vm b,Iv id] st fun r st'=>r=Bv (qcm a b id)∧st'=st:=by
 refine zg [.a (vm a),.a (vm b),.i id] (qq _) Tryz.func60 rfl rfl (fun _=>rfl) rfl fun S0=>?_;have h1:=fun st=>zgi a id st ha;have h2:=fun st=>zgi b id st hb;unfold qcm;generalize rawF a id=x at *;generalize rawF b id=y at *;obtain⟨x,ok⟩:=x;obtain⟨y,is⟩:=y
 cases ok <;> cases is
 all_goals
  dsimp only at *;apply qd [];repeat' (first|apply And.intro|(intro h;try exact cDd)|exact⟨Tryz.call32⟩|refine cpe h1 ?_|exact⟨Tryz.call32⟩|refine cpe h2 ?_|exact cSd|apply qb []|refine exr ?_|refine qe ?_)
  all_goals (simp;done)
theorem q3e (text:qa) (st:List AObj) (hl:text.length<1000000):qo E 13 [Sv text] st fun r st'=>r = .tu [Sv (wn text).2,Iv (wn text).1.pos,Iv (wn text).1.code]∧st'=st:=by
 refine zg [.s text] (yy (qq _) (qq _) (qq _)) Tryz.func13 rfl rfl (fun _=>rfl) rfl fun S0=>?_;have n5:=fun st=>qrw text st hl;have hok:=@qhc text;have s8:=@qhy text;obtain⟨hB,hI⟩:=qgw text;unfold qvl at n5;rw [qo4];generalize zy text=q at *;obtain⟨e,b,l⟩:=q;dsimp only at n5 hok s8 hB hI ⊢;by_cases he:e = .no
 ·subst he
  rw [if_pos rfl] at n5 ⊢;obtain⟨_,_,hg⟩:=hok rfl;have ht:=fun st=>q5i l st (by have:=hB.len;omega) (q3x hB hI);have hn:=fun h st=>q5d (b.gen+1) st h;have hg2:=@qm1 b.gen hg;have hg3:0≤b.gen∧b.gen≤2147483648:=by unfold ke at hg;omega
  have lg:ke (b.gen+1)→(wi (b.gen+1)).length<100:=fun h=>by
   unfold ke at h;have:=qcg (b.gen+1).toNat (by omega);rw [Int.toNat_of_nonneg (by omega)] at this;simp [wi,genL];omega
  generalize wi (b.gen+1)=hd at *;generalize qav l=s at *;by_cases h1:b.gen=2147483648
  ·rw [if_pos h1]
   apply qd [];repeat' (first|apply And.intro|(intro h;try exact cDd)|exact⟨Tryz.call57⟩|refine cpe n5 ?_|exact cSd|apply qb []|refine exr ?_|refine qe ?_)
  ·rw [if_neg h1]
   by_cases h2:60000<s.length
   ·rw [if_pos h2]
    apply qd [];repeat' (first|apply And.intro|(intro h;try exact cDd)|exact⟨Tryz.call57⟩|refine cpe n5 ?_|exact⟨Tryz.call58⟩|refine cpe ht ?_|exact cSd|apply qb []|refine exr ?_|refine qe ?_)
   ·rw [if_neg h2]
    have hgg:=hg2 (by omega);replace hn:=hn hgg;have dj:=lg hgg;apply qd [];repeat' (first|apply And.intro|(intro h;try exact cDd)|exact⟨Tryz.call57⟩|refine cpe n5 ?_|exact⟨Tryz.call58⟩|refine cpe ht ?_|exact⟨Tryz.call59⟩|refine cpe hn ?_|exact cSd|apply qb []|refine exr ?_|refine qe ?_)
    all_goals first|(simp;done)|(simp;omega)
 ·rw [if_neg he] at n5 ⊢
  have s8:=s8 he;generalize e.code=c at *;generalize e.pos=c2 at *;apply qd [];repeat' (first|apply And.intro|(intro h;try exact cDd)|exact⟨Tryz.call57⟩|refine cpe n5 ?_|exact cSd|apply qb []|refine exr ?_|refine qe ?_)
def qdf (text:qa):List Int:=if (zy text).1 = .no then qcn (qkh (ofF (itsE (zy text).2.1.base)) (zy text).2.2) else []
theorem q7y (text:qa) (st:List AObj) (hl:text.length<1000000):qo E 18 [Sv text] st fun r st'=>r = .tu [yf (qdf text),errA (zy text).1]∧st'=st:=by
 refine qnl [.s text] (jg (qa2 _) (km _)) Tryz.func18 rfl rfl (fun _=>rfl) rfl fun S0=>?_;have n5:=fun st=>q6y text st hl;have hok:=@qhc text;obtain⟨hB,hI⟩:=qgw text;unfold qpx at n5;unfold qdf;generalize zy text=q at *;obtain⟨e,b,l⟩:=q
 cases e with
 |num n=>
  dsimp only at n5 ⊢;rw [if_neg (by simp)];apply qd []
  repeat' (first|apply And.intro|(intro h;try exact cDd)|exact⟨Tryz.call21⟩|refine cpe n5 ?_|exact cSd|apply qb []|refine exr ?_|refine qe ?_)
 |at' a n=>
  dsimp only at n5 ⊢;rw [if_neg (by simp)];apply qd []
  repeat' (first|apply And.intro|(intro h;try exact cDd)|exact⟨Tryz.call21⟩|refine cpe n5 ?_|exact cSd|apply qb []|refine exr ?_|refine qe ?_)
 |no=>
  dsimp only at n5 hok hB hI ⊢;rw [if_pos rfl];obtain⟨hT,_,_⟩:=hok rfl;have dj:=hB.len;have ml:=(qpn b.base).len;have hbh:=fun st=>qyw b 0 st (qms hT);rw [q00 hT.parse] at hbh;generalize ofF (itsE b.base)=l0 at *;replace hbh:∀ st,qo E 30 [qbx b,Iv 0] st fun r st'=>r = .tu [vm l0,errA .no]∧st'=st:=hbh;have hz:=fun st=>q8k l st (by omega) fun e he=>by have:=(hI e he).2;omega
  have hsm:=fun id st=>zg9 l0 l id st (by omega) (by omega);have cx:=q3s l.ents;unfold qkh;generalize stzF l.ents=s at *;have hms:(s.map stzA).length=s.length:=by simp
  apply qd [];repeat' (first|apply And.intro|(intro h;try exact cDd)|exact⟨Tryz.call21⟩|refine cpe n5 ?_|exact⟨Tryz.call30⟩|refine cpe hbh ?_|exact⟨Tryz.call25⟩|refine cpe hz ?_|exact cSd|apply qb []|refine exr ?_|refine qe ?_)
  refine zw (X:=Nat) (fun k=>⟨[(5,.a (vm l)),(7,.a (vm l0)),(8,.tp 0),(29,.a (q9d s)),(30,.i s.length),(31,.i k)],[(0,some (.own 1 3 ((((s.take k).map Prod.fst).filter fun id=> !qcm l0 l id).map fun n=>Iv n)))],1⟩) (fun k=>k≤s.length) (fun k=>s.length - k) 0 (by omega) ?_ ?_
  ·skip
   repeat' (first|apply And.intro|(intro h;try exact cDd)|exact cSd|apply qb []|refine exr ?_|refine qe ?_)
   all_goals first|rfl|(simp;done)
  ·rintro k hk
   by_cases b8:k<s.length
   ·have hx:s[k]? = some s[k]:=List.getElem?_eq_getElem b8
    have c8:(s.map stzA)[k]? = some (stzA s[k]):=by rw [List.getElem?_map,hx];rfl
    have d2:s.take (k+1)=s.take k++[s[k]]:=by rw [List.take_add_one,hx];rfl
    have d8:(((s.take k).map Prod.fst).filter fun id=> !qcm l0 l id).length≤s.length:=by
     have:=List.length_filter_le (fun id=> !qcm l0 l id) ((s.take k).map Prod.fst);rw [List.length_map,List.length_take] at this;omega
    generalize s[k]=x at hx c8 d2;have h1:=hsm x.1
    cases hs:qcm l0 l x.1 with
    |true=>
     have e1:((s.take (k+1)).map Prod.fst).filter (fun id=> !qcm l0 l id)=((s.take k).map Prod.fst).filter fun id=> !qcm l0 l id:=by rw [d2];simp [hs]
     rw [hs] at h1;apply qd [];repeat' (first|apply And.intro|(intro h;try exact cDd)|(refine Exists.intro (k) ⟨by omega,_,c8,?_⟩)|exact⟨Tryz.call60⟩|refine cpe h1 ?_|(refine Exists.intro (k+1) ⟨by omega,by omega,?_⟩)|exact cSd|apply qb []|refine exr ?_|refine qe ?_)
     all_goals first|rfl|(rw [e1];done)|(simp;omega)
    |false=>
     have e1:((s.take (k+1)).map Prod.fst).filter (fun id=> !qcm l0 l id)=((s.take k).map Prod.fst).filter (fun id=> !qcm l0 l id)++[x.1]:=by rw [d2];simp [hs]
     rw [hs] at h1;apply qd [];repeat' (first|apply And.intro|(intro h;try exact cDd)|(refine Exists.intro (k) ⟨by omega,_,c8,?_⟩)|exact⟨Tryz.call60⟩|refine cpe h1 ?_|(refine qu1 (ys:=[Iv x.1]) rfl rfl rfl rfl rfl rfl rfl rfl (by rw [List.length_map];simp only [List.length_cons,List.length_nil];omega) rfl ?_)|(refine Exists.intro (k+1) ⟨by omega,by omega,?_⟩)|exact cSd|apply qb []|refine exr ?_|refine qe ?_)
     all_goals first|rfl|(rw [e1];simp;done)|(simp;omega)
   ·have b8:k=s.length:=by omega
    subst b8;rw [List.take_length]
    have d8:((s.map Prod.fst).filter fun id=> !qcm l0 l id).length≤s.length:=by
     have:=List.length_filter_le (fun id=> !qcm l0 l id) (s.map Prod.fst);rw [List.length_map] at this;omega
    generalize (s.map Prod.fst).filter (fun id=> !qcm l0 l id)=ns at *;apply qd [];repeat' (first|apply And.intro|(intro h;try exact cDd)|exact⟨Tryz.call61⟩|(refine Exists.intro _ ⟨zg8 Tryz.slices_Sort_int Tryz.slices_Sort_int_none rfl (by omega),?_⟩)|exact cSd|apply qb []|refine exr ?_|refine qe ?_)
theorem q5l {text:qa} (h:(zy text).1 = .no):qdf text=qp4 (ofF (itsE (zy text).2.1.base)) (zy text).2.2:=by
 unfold qdf;rw [if_pos h];refine zf7 ?_ (qvo _) (q3p _);unfold zy at h ⊢;split
 ·rename_i hb
  rw [if_pos hb] at h;split
  ·exact ze9 _ _
  ·rename_i hp
   rw [if_neg hp] at h;exact absurd h hp
 ·rename_i hb
  rw [if_neg hb] at h;exact absurd h hb
theorem qvf (l:qz) (id:Int) (hl:l.ents.length<1000000):∃ k fs,∀ st,qo E 63 [ve l,Iv id] st fun r st'=>r = .tu [.ag [Iv k,Sv (rawF l id).1,jr fs],Bv (rawF l id).2]∧st'=st:=by
 have h1:=fun st=>qhw l id st hl;rcases qdx l id with h | ⟨i,e,h,he,o9,pq⟩
 ·have hr:rawF l id=([],false):=by
   unfold rawF;rw [h];split <;> rfl
  rw [h] at h1;rw [hr];refine⟨0,[],fun st=>?_⟩;refine zg [.a (ve l),.i id] (jg (yg (qdl ⟨0,[],[]⟩)) (qq _)) Tryz.func63 rfl rfl (fun _=>rfl) rfl fun S0=>?_;apply qd [];repeat' (first|apply And.intro|(intro h;try exact cDd)|exact⟨Tryz.call117⟩|refine cpe h1 ?_|exact cSd|apply qb []|refine exr ?_|refine qe ?_)
 ·have hr:rawF l id=(e.x.raw,true):=by
   unfold rawF;rw [h,Int.toNat_natCast,he];exact if_neg (by omega)
  rw [h] at h1;rw [hr];have hm:(l.ents.map entA)[i]? = some (entA e):=by rw [List.getElem?_map,he];rfl
  refine⟨e.x.kind,e.x.fields,fun st=>?_⟩;refine zg [.a (ve l),.i id] (jg (yg (qdl e.x)) (qq _)) Tryz.func63 rfl rfl (fun _=>rfl) rfl fun S0=>?_;apply qd [];repeat' (first|apply And.intro|(intro h;try exact cDd)|(refine Exists.intro (i) ⟨by omega,_,hm,?_⟩)|exact⟨Tryz.call117⟩|refine cpe h1 ?_|exact cSd|apply qb []|refine exr ?_|refine qe ?_)
theorem q5s (a l:qz) (k:Nat):((List.range (k+1)).map fun i:Nat=>(i:Int)+1).filter (fun id=>(rawF l id).2 && (!(rawF a id).2 ||decide ((rawF a id).1≠(rawF l id).1))) =
  ((List.range k).map fun i:Nat=>(i:Int)+1).filter (fun id=>(rawF l id).2 && (!(rawF a id).2 ||decide ((rawF a id).1≠(rawF l id).1)))++if (rawF l ((k:Int)+1)).2 && (!(rawF a ((k:Int)+1)).2 ||decide ((rawF a ((k:Int)+1)).1≠(rawF l ((k:Int)+1)).1)) then [(k:Int)+1] else []:=by
 rw [List.range_succ,List.map_append,List.filter_append];congr 1;simp [List.filter_cons]
set_option maxHeartbeats 4000000 in
theorem qwx (text:qa) (st:List AObj) (hl:text.length<1000000):qo E 19 [Sv text] st fun r st'=>r = .tu [yf (qdf text),Iv (zy text).1.pos,Iv (zy text).1.code]∧st'=st:=by
 refine zg [.s text] (yy (qa2 _) (qq _) (qq _)) Tryz.func19 rfl rfl (fun _=>rfl) rfl fun S0=>?_;have n5:=fun st=>qrw text st hl;have hok:=@qhc text;have s8:=@qhy text;have hts:=@q5l text;obtain⟨hB,hI⟩:=qgw text;unfold qvl at n5;have htn:(zy text).1≠.no→qdf text=[]:=fun h=>by unfold qdf;rw [if_neg h]
 generalize qdf text=ts at *;generalize zy text=q at *;obtain⟨e,b,l⟩:=q;dsimp only at n5 hok s8 hB hI hts htn ⊢;by_cases he:e = .no
 ·subst he
  rw [if_pos rfl] at n5;rw [hts rfl];obtain⟨hT,_,_⟩:=hok rfl;have hBk:=qms hT;have hbh:=fun st=>qn9 b 0 st hBk (Nat.zero_le _)
  have hz:vn b.base (b.batches.take 0)=(.no,⟨ofF (itsE b.base),[],[]⟩):=by
   unfold vn;rw [if_pos hT.parse]
   try rfl
  have ml:lR b 0=ofF (itsE b.base):=by unfold lR;rw [if_pos hT.parse,hz]
  have hg0:gR b 0=[]:=by unfold gR;rw [hz,if_pos rfl]
  rw [hz,ml,hg0] at hbh;have dj:=hB.len;have bz:=hB.nx0;have hn1:=hB.nx1;have ml:=(qpn b.base).len;generalize ofF (itsE b.base)=l0 at *;obtain⟨N,hN⟩:∃ N:Nat,l.next=(N:Int)+1:=⟨(l.next - 1).toNat,by omega⟩;have hg1:=fun id=>qvf l0 id (by omega);have hg2:=fun id=>qvf l id (by omega);have hsn:=q5s l0 l;unfold qp4;have e0:(l.next - 1).toNat=N:=by omega
  rw [e0]
  have d8:∀ k,(((List.range k).map fun i:Nat=>(i:Int)+1).filter fun id=>(rawF l id).2 && (!(rawF l0 id).2 ||decide ((rawF l0 id).1≠(rawF l id).1))).length≤k:=fun k=>by
   have:=List.length_filter_le (fun id=>(rawF l id).2 && (!(rawF l0 id).2 ||decide ((rawF l0 id).1≠(rawF l id).1))) ((List.range k).map fun i:Nat=>(i:Int)+1);simp only [List.length_map,List.length_range] at this;exact this
  clear hts htn hok s8;generalize hF:(fun k:Nat=>((List.range k).map fun i:Nat=>(i:Int)+1).filter fun id=>(rawF l id).2 && (!(rawF l0 id).2 ||decide ((rawF l0 id).1≠(rawF l id).1)))=F;have hFN:=congrFun hF N
  try dsimp only at hFN
  rw [hFN];have rk:∀ k:Nat,F (k+1)=F k++if (rawF l ((k:Int)+1)).2 && (!(rawF l0 ((k:Int)+1)).2 ||decide ((rawF l0 ((k:Int)+1)).1≠(rawF l ((k:Int)+1)).1)) then [(k:Int)+1] else []:=fun k=>by rw [← hF];exact hsn k
  have d8:∀ k,(F k).length≤k:=fun k=>by rw [← hF];exact d8 k
  have hF0:F 0=[]:=by rw [← hF];rfl
  clear hsn hF hFN;apply qd [];repeat' (first|apply And.intro|(intro h;try exact cDd)|exact⟨Tryz.call57⟩|refine cpe n5 ?_|exact⟨Tryz.call62⟩|refine cpe hbh ?_|exact cSd|apply qb []|refine exr ?_|refine qe ?_)
  refine zw (X:=Nat) (fun k=>⟨[(6,.bx 1 0),(9,.bx 2 0),(13,.tp 0),(14,.i ((k:Int)+1))],[(0,some (.tip 1 3 ((F k).map fun n=>Iv n))),(1,some (.cells 75 [.a (qdt l.ents),.i l.next])),(2,some (.cells 75 [.a (qdt l0.ents),.i l0.next]))],3⟩) (fun k=>k≤N) (fun k=>N - k) 0 (by omega) ?_ ?_
  ·skip
   repeat' (first|apply And.intro|(intro h;try exact cDd)|exact cSd|apply qb []|refine exr ?_|refine qe ?_)
   all_goals first|rfl|(rw [hF0];rfl)|(rw [hF0];done)
  ·rintro k hk
   by_cases b8:k<N
   ·obtain⟨k1,f1,c1⟩:=hg1 ((k:Int)+1)
    obtain⟨k2,f2,c2⟩:=hg2 ((k:Int)+1);have hs:=rk k;have hfk:=d8 k;clear hg1 hg2 rk d8 hF0;generalize F k=o1 at *;generalize rawF l ((k:Int)+1)=y at *;generalize rawF l0 ((k:Int)+1)=x at *;obtain⟨x,xk⟩:=x;obtain⟨y,yk⟩:=y;dsimp only at c1 c2 hs;by_cases hxy:x=y
    ·rw [decide_eq_false (by simpa using hxy)] at hs
     cases xk <;> cases yk
     all_goals
      simp only [Bool.not_true,Bool.not_false,Bool.or_false,Bool.and_true,Bool.and_false,Bool.false_and,Bool.true_and,Bool.false_eq_true,if_true,if_false,List.append_nil] at hs;apply qd [];repeat' (first|apply And.intro|(intro h;try exact cDd)|exact⟨Tryz.call63⟩|refine cpe c1 ?_|exact⟨Tryz.call63⟩|refine cpe c2 ?_|exact absurd hxy (by assumption)|(refine Exists.intro (k+1) ⟨by omega,by omega,?_⟩)|exact cSd|apply qb []|refine exr ?_|refine qe ?_)
      all_goals first|rfl|(rw [hs];done)|(rw [hs];simp;done)|(simp;done)|(simp;omega)|omega
    ·rw [decide_eq_true (by simpa using hxy)] at hs
     cases xk <;> cases yk
     all_goals
      simp only [Bool.not_true,Bool.not_false,Bool.or_true,Bool.or_false,Bool.and_true,Bool.and_false,Bool.false_and,Bool.true_and,Bool.false_eq_true,if_true,if_false,List.append_nil] at hs;apply qd [];repeat' (first|apply And.intro|(intro h;try exact cDd)|exact⟨Tryz.call63⟩|refine cpe c1 ?_|exact⟨Tryz.call63⟩|refine cpe c2 ?_|exact absurd (by assumption) hxy|exact absurd hxy (by assumption)|(refine Exists.intro (k+1) ⟨by omega,by omega,?_⟩)|exact cSd|apply qb []|refine exr ?_|refine qe ?_)
      all_goals first|rfl|(rw [hs];done)|(rw [hs];simp;done)|(simp;done)|(simp;omega)|omega
   ·have b8:k=N:=by omega
    subst b8;apply qd [];repeat' (first|apply And.intro|(intro h;try exact cDd)|exact cSd|apply qb []|refine exr ?_|refine qe ?_)
 ·rw [if_neg he] at n5
  rw [htn he];have s8:=s8 he;generalize e.code=c at *;generalize e.pos=c2 at *;apply qd [];repeat' (first|apply And.intro|(intro h;try exact cDd)|exact⟨Tryz.call57⟩|refine cpe n5 ?_|exact cSd|apply qb []|refine exr ?_|refine qe ?_)
def qkl:List qr:=[⟨3,1,[([66],[50])]⟩]
theorem q9q (st:List AObj):qo E 11 [] st fun r st'=>r=Bv true∧st'=st:=by
 have hap:=fun st=>zja qml qkl st (by decide) (by simp [qkl];exact⟨by simp [KeyB],by simp,by simp,by simp⟩) (by decide);have h1:(Go.Pl.appF qml qkl).1 = .no:=by decide +kernel
 have h2:(wn (Go.Pl.appF qml qkl).2).1 = .no:=by decide +kernel
 have h3:(wn (Go.Pl.appF qml qkl).2).2=[35,37,103,101,110,32,49,10,10,65,58,32,49,10,10,66,58,32,50,10]:=by decide +kernel
 have h5:(Go.Pl.appF qml qkl).2.length<1000000:=by decide +kernel
 rw [h1] at hap;have hfr:=fun st=>qsa (Go.Pl.appF qml qkl).2 st h5;rw [h2,h3] at hfr;clear h1 h2 h3;generalize (Go.Pl.appF qml qkl).2=s at hap hfr;refine zg [] (qq _) Tryz.func11 rfl rfl (fun _=>rfl) rfl fun S0=>?_;apply qd [];repeat' (first|apply And.intro|(intro h;try exact cDd)|exact⟨Tryz.call53⟩|refine cpe hap ?_|exact⟨Tryz.call12⟩|refine cpe hfr ?_|exact cSd|apply qb []|refine exr ?_|refine qe ?_)
 all_goals (simp;done)
theorem q8b (text:qa):okE (wn text).1:=by
 rw [qo4];split
 ·split
  ·simp [okE]
  ·split <;> simp [okE]
 ·exact zbh (@qhy text)
theorem q8a (text:qa) (hl:text.length≤5000):(wn text).2.length<1000000:=by
 rw [qo4];split
 ·rename_i h
  obtain⟨_,_,hg⟩:=qhc h;split
  ·simp
  ·split
   ·simp
   ·have hgg:=qm1 hg (by unfold ke at hg;omega)
    unfold ke at hgg;have:=qcg ((zy text).2.1.gen+1).toNat (by omega);rw [Int.toNat_of_nonneg (by omega)] at this;simp [wi,genL];omega
 ·simp
set_option maxHeartbeats 4000000 in
theorem qwj (text:qa) (st:List AObj):qo E 3 [Sv text] st fun r st'=>r=Bv true∧st'=st:=by
 refine zg [.s text] (qq _) Tryz.func3 rfl rfl (fun _=>rfl) rfl fun S0=>?_;have sm:=q9q;by_cases h5:5000<text.length
 ·apply qd []
  repeat' (first|apply And.intro|(intro h;try exact cDd)|exact⟨Tryz.call11⟩|refine cpe sm ?_|exact cSd|apply qb []|refine exr ?_|refine qe ?_)
 have d8:=q8a text (by omega);have hf:=fun st=>qsa text st (by omega);have hr:=fun st=>q3e text st (by omega);have hn:=fun st=>q51 text st (by omega);have hs:=fun st=>zdz text st (by omega) d8;have hok:=q8b text;have hnm:=fun st=>za9 (wn text).1 st hok;have hat:=fun st=>zgb (wn text).1 st;have ht:=fun st=>q7y text st (by omega);have n5:=fun st=>qwx text st (by omega);have hok2:=zbh (@qhy text);have hnm2:=fun st=>za9 (zy text).1 st hok2;have hat2:=fun st=>zgb (zy text).1 st
 have pd:=fun st=>zjs (qdf text) (qdf text) st (by
  unfold qdf;split
  ·rw [qig]
   unfold qkh;have h1:=List.length_filter_le (fun id=> !qcm (ofF (itsE (zy text).2.1.base)) (zy text).2.2 id) ((stzF (zy text).2.2.ents).map Prod.fst);have h2:=q3s (zy text).2.2.ents;have h3:=(qgw text).1.len;rw [List.length_map] at h1;omega
  ·simp)
 rw [decide_eq_true rfl] at pd
 have hsv:qpy text=if (wn text).1.code=0 then (text.length:Int) - (wn text).2.length else 0:=by
  unfold qpy;by_cases h:(wn text).1 = .no
  ·rw [if_pos h,h,if_pos (show ErrV.no.code=0 from rfl)]
  ·rw [if_neg h,if_neg]
   revert h hok
   cases (wn text).1 <;> simp [okE,ErrV.code]
 generalize qpy text=sv at *;generalize qdf text=ts at *;generalize wn text=p at *;obtain⟨e,s⟩:=p;dsimp only at *;generalize (zy text).1=e2 at *;have hc:e.code=0∨¬ e.code=0:=Classical.em _;rcases hc with hc|hc
 ·rw [if_pos hc] at hsv
  cases e <;> cases e2
  all_goals
   apply qd [];repeat' (first|apply And.intro|(intro h;try exact cDd)|exact⟨Tryz.call11⟩|refine cpe sm ?_|exact⟨Tryz.call12⟩|refine cpe hf ?_|exact⟨Tryz.call13⟩|refine cpe hr ?_|exact⟨Tryz.call14⟩|refine cpe hn ?_|exact⟨Tryz.call15⟩|refine cpe hs ?_|exact⟨Tryz.call16⟩|refine cpe hnm ?_|exact⟨Tryz.call17⟩|refine cpe hat ?_|exact⟨Tryz.call16⟩|refine cpe hnm2 ?_|exact⟨Tryz.call17⟩|refine cpe hat2 ?_|exact⟨Tryz.call18⟩|refine cpe ht ?_|exact⟨Tryz.call19⟩|refine cpe n5 ?_|exact⟨Tryz.call20⟩|refine cpe pd ?_|exact absurd hsv (by assumption)|exact absurd hc (by assumption)|exact cSd|apply qb []|refine exr ?_|refine qe ?_)
   all_goals first|(simp;done)|(simp at *;omega)
 ·rw [if_neg hc] at hsv
  cases e <;> cases e2
  all_goals
   apply qd [];repeat' (first|apply And.intro|(intro h;try exact cDd)|exact⟨Tryz.call11⟩|refine cpe sm ?_|exact⟨Tryz.call12⟩|refine cpe hf ?_|exact⟨Tryz.call13⟩|refine cpe hr ?_|exact⟨Tryz.call14⟩|refine cpe hn ?_|exact⟨Tryz.call15⟩|refine cpe hs ?_|exact⟨Tryz.call16⟩|refine cpe hnm ?_|exact⟨Tryz.call17⟩|refine cpe hat ?_|exact⟨Tryz.call16⟩|refine cpe hnm2 ?_|exact⟨Tryz.call17⟩|refine cpe hat2 ?_|exact⟨Tryz.call18⟩|refine cpe ht ?_|exact⟨Tryz.call19⟩|refine cpe n5 ?_|exact⟨Tryz.call20⟩|refine cpe pd ?_|exact absurd hsv (by assumption)|exact absurd (by assumption) hc|exact cSd|apply qb []|refine exr ?_|refine qe ?_)
   all_goals first|(simp;done)|(simp at *;omega)
theorem qwi (text:qa) (st:List AObj):qo E 3 [Sv text] st fun r st'=>r=Bv true∧st'=st:=qwj text st
end Go.Proofs.YtneejjefekdgjaaGreatDoor
