/- Contracts and plain facts that the closing text leans on (part 3). No condition of their own beyond those that each states. -/
import Derived.Test.YthnbabbhpeebbaaGreatDoorK2
import Derived.Lib.SplitLaws
import Derived.Shelf.Strings.SplitShaped
import Derived.Deep.Slices
import Derived.Deep.Fields
import Derived.WideKeyArgs
import Derived.Lib.ItoaLen
set_option maxRecDepth 100000
set_option linter.unusedVariables false
set_option linter.unusedSimpArgs false
open Array renaming getElem?_eq_getElem→Zk,getD→Zm,getElem?_eq_none→Zr,getElem?_toList→Zv,replicate→Xj,ext→Xu
open Bool renaming and_eq_true→Xh
open List renaming append_assoc→Qa,length_append→Qb,getElem?_append_left→Qc,getElem?_eq_getElem→Qe,getElem?_append_right→Qf,length_cons→Qh,length_nil→Qi,eq_nil_of_length_eq_zero→Qk,length_eq_zero_iff→Qm,length_map→Qn,getElem?_map→Qo,getElem?_set_ne→Qp,mem_cons→Qq,getElem?_take→Qr,flatMap_cons→Qs,set_append_right→Qt,getElem?_eq_none→Qu,map_cons→Qv,length_pos_iff→Qw,mem_append→Qx,append_nil→Qy,getElem?_drop→Za,all_eq_true→Zc,not_mem_nil→Zd,take_append_drop→Ze,mem_of_getElem?→Zg,drop_append_of_le_length→Zh,ext_getElem?→Zi,drop_eq_getElem_cons→Zj,getElem?_eq_some_iff→Zl,map_map→Zn,getElem?_take_of_lt→Zo,headD_cons→Zp,getElem?_toArray→Zt,tail_cons→Zu,mem_of_mem_take→Zw,takeWhile_cons→Zx,mem_singleton→Zy,mem_map→Zz,set_cons_succ→Xb,mem_of_head?→Xd,length→Xe,cons_append→Xi,mem_range→Xl,sum_cons→Xm,set_set→Xr,range→Xs,getD→Xt
open Nat renaming le_of_ble_eq_true→Qd,le_refl→Qg,mul_le_mul_right→Qj,add_sub_cancel_left→Ql,zero_add→Qz,lt_or_ge→Zf,min_eq_left→Zq,add_mul→Zs,eq_zero_or_pos→Xa,ble→Xc,zero_le→Xf,le_add_right→Xg,beq→Xk,add_zero→Xo,le_of_eq→Xp,succ_mul→Xq,blt→Xw
open Option.some renaming injEq→Zb
open Prod renaming snd→Xv
open Prod.mk renaming injEq→Xx
namespace Go.Proofs.YthnbabbhpeebbaaGreatDoor
open Go Go.Pl
theorem zh6{l:qa}(h1:10∈l->(jf (upto 10 l)).2.2=false)(h2:10∉l->qe8 l=false):z4 l=(3,[],0):=by
 unfold z4;by_cases h:10∈l
 .rw[if_pos h,if_neg (by rw[h1 h];simp)]
 .rw[if_neg h,if_neg (by rw[h2 h];simp)]
theorem R2{l:qa}(hl:l.length<=7)(h:¬l<+:z6):z4 l=(3,[],0):=by
 refine zh6 (λp7=>decide_eq_false λh'=>?_) (λp7=>?_)
 .have:=h'.1.length_le
  have:=qei p7;have e:z6.length=7:=rfl;omega
 .unfold qe8
  by_cases hb:z6<+:l
  .have:=hb.eq_of_length_le hl
   exact absurd (this▸List.prefix_refl _) h
  .rw[if_neg hb];exact decide_eq_false h
theorem zgr{p:UInt8->Bool}(s:qa):s.take (s.takeWhile p).length=s.takeWhile p:=by
 induction s with
 |nil=>rfl
 |cons b s ih=>
  by_cases h:p b=true
  .rw[List.takeWhile_cons_of_pos h];simp[ih]
  .rw[List.takeWhile_cons_of_neg h];rfl
theorem zis{p:UInt8->Bool}{l m:qa}(hm:m<+:l)(h:∀c∈m,p c=true):m.length<=(l.takeWhile p).length:=by
 obtain⟨r,rfl⟩:=hm;rw[List.takeWhile_append_of_pos h];simp
end Go.Proofs.YthnbabbhpeebbaaGreatDoor
namespace Go.Proofs.YthnbabbhpeebbaaGreatDoor
open Go Go.Av Go.RowKit Go.Proofs Go.Pl
structure zdw (l S:qa) (K n:Nat):Prop where
 hl:l=z6++S
 hK:(S.takeWhile qtj).length=K
 hD:S.take K=Lib.itoa (n:Int)
 h1:1<=n
 h2:n<=50000
theorem zdw.split{l S:qa}{K n:Nat}(A:zdw l S K n)(h:K<S.length):S=Lib.itoa (n:Int)++S.getD K 0::S.drop (K+1)∧qtj (S.getD K 0)=false:=by
 have e:S=S.take K++S.getD K 0::S.drop (K+1):=by
  conv=>lhs;rw[<-Ze K S]
  rw[Zj h];congr 2;simp[Xt,h]
 refine⟨by rw[<-A.hD];exact e,?_⟩
 cases hc:qtj (S.getD K 0)with
 |false=>rfl
 |true=>
  have hp:S.take (K+1)<+:S:=List.take_prefix _ _
  have:=zis (p:=qtj) hp (λc tj=>by
   rw[qo1 h,Qx,Zy]at tj;rcases tj with tj|rfl
   .rw[<-A.hK,zgr]at tj
    have ha:=List.all_takeWhile (p:=qtj) (l:=S);rw[Zc]at ha;exact ha c tj
   .exact hc)
  rw[A.hK]at this;simp at this;omega
theorem q9x(l:List UInt8)(st:List AObj)(hl:l.length<4294967281)(hg:y9 l):qm E 104 [Sv l] st λr st'=>r=.tu [Sv (recF l),.v .nilIface]∧st'=st:=by
 have h:=zc5 l st hl;unfold qfm at h;rw[if_pos hg]at h;exact h
theorem q6g{b:List UInt8}(h:y9 b):(recF b).length<=b.length+61∧1<=(recF b).length:=by
 have h1:=qjj b.length (by have:=h.2.1;omega);unfold recF;simp only[Qb,qf0,qhc,qf9];omega
end Go.Proofs.YthnbabbhpeebbaaGreatDoor
namespace Go.Av
open Go Go.RowKit
def StE(L:List (Nat×AV))(st loc:List AObj)(s:AS):Prop:=∃t ext,s=⟨puts t L,((st++loc)++ext)++[],[]⟩
theorem qjx{t:Nat->AV}{L:List (Nat×AV)}{st loc loc' ext new:List AObj}(h:HasL t L)(e:loc'=loc):StE L st loc ⟨t,((st++loc')++ext)++new,[]⟩:=
 ⟨t,ext++new,by rw[qi2 h,e];simp⟩
theorem qpq{t:Nat->AV}{L:List (Nat×AV)}{st loc st':List AObj}(h:HasL t L)(e:st'=st++loc):StE L st loc ⟨t,st',[]⟩:=
 ⟨t,[],by rw[qi2 h,e];simp⟩
theorem qgj(st loc ext new:List AObj):∃x,((st++loc)++ext)++new=st++x:=⟨loc++ext++new,Sx⟩
theorem qc7{st loc ext new:List AObj}{k:Nat}{x:AObj}(h:loc[k]?=some x):(((st++loc)++ext)++new)[st.length+k]?=some x:=by
 have hk:=lt_of_getElem? h;rw[Qa,Qa,Qf (Xg _ _),Ql,Qc hk];exact h
theorem qi4{st loc ext new:List AObj}{k:Nat}(x:AObj)(hk:k<loc.length):(((st++loc)++ext)++new).set (st.length+k) x=((st++loc.set k x)++ext)++new:=by
 rw[Qa,Qa,Qt _ _ (Xg _ _),Ql,List.set_append_left _ _ hk];simp
theorem qov{G:Gh}{sz:Nat}{xs:List AV}{tip:Option Nat}{v:Value}(h:Rel G (.sl sz xs tip) v):Rel G (.sl sz xs none) v:=by
 cases h with
 |sl0 _ _ base cap ht=>exact .sl0 sz none base cap Sx
 |sl _ _ _ b off cap pub hp hw b9 hr ht s4=>exact .sl sz xs none b off cap pub hp hw b9 hr (λt ht=>by simp at ht) s4
theorem qbo{G:Gh}{sz:Nat}{v:Value}(h:Rel G zf v):Rel G (.sl sz [] none) v:=by
 cases h
 exact .sl0 sz none none 0 Sx
section
variable {E : Env} {rd : Option Nat} {N : Nat} {ops : Array Oper} {K : AS → Prop} {s : AS} {rest : List Oper} {d : Option Tmp} {T : TypeId} {p : String} {af : Array Edge}
theorem vh{fn:Func}{r r':AV}(h:ARes E fn s r)(hw:∀(G:Gh)(v:Value),Rel G r v->Rel G r' v):ARes E fn s r':=
 ⟨λB0 w0 G a w hL hI=>let ⟨v,h1,h2⟩:=h.run B0 w0 G a w hL hI;⟨v,h1,hw G v h2⟩⟩
theorem qsc{x y:Operand}{t u T':TypeId}{sz bytes k n m:Nat}{xs ys zs:List AV}{tip:Option Nat}{st loc ext new:List AObj}(hs:s.st=((st++loc)++ext)++new)(hx:qg N s x=.sl sz xs (some (st.length+k)))(hy:qg N s y=.sl sz ys tip)(ho:loc[k]?=some (.tip n sz T'))(hn:xs.length=n)
  (ht:E.P.underlying t=some (.slice T')) (hu:E.P.underlying u=some (.slice T')) (hT:yr E.P T' sz bytes) (p6:va (flat ys)=true) (hm:ys.length=m) (cj:n+m<=maxLen) (hb:(n+m)*bytes<=140737488355328) (hz:xs++ys=zs)
  (h:AOps E rd N ops rest K (AS.put ⟨s.t,((st++loc.set k (.tip (n+m) sz T'))++ext)++new,s.df⟩ d (.sl sz zs (some (st.length+k))))):AOps E rd N ops (⟨d,.call ⟨.builtin .append,#[x,y],#[t,u]⟩,T,p,af,none⟩::rest) K s:=by
 subst hz;have hk:=lt_of_getElem? ho;exact qpv hx hy (by rw[hs];exact qc7 ho) hn ht hu hT p6 hm cj hb (by rw[hs,qi4 _ hk];exact h)
theorem qh1{x:Operand}{t:TypeId}{sz:Nat}{agg:Bool}{st loc ext new:List AObj}{k ver off:Nat}{T':TypeId}{cs:List AV}{r:AV}(hs:s.st=((st++loc)++ext)++new)(hx:qg N s x=.bx (st.length+k) ver off)(ho:loc[k]?=some (.cells ver T' cs))(ht:tyOf E.P t=some (sz,agg))(hr:jy sz agg off cs=some r)
  (h:AOps E rd N ops rest K (s.put d r)):AOps E rd N ops (⟨d,.load t x,T,p,af,none⟩::rest) K s:=
 kh hx (by rw[hs];exact qc7 ho) ht hr h
end
end Go.Av
namespace Go.Pl
open Go
def zx(l:qa):List qa:=
 if h:10∈l then upto 10 l::zx (past 10 l)else [l]
 termination_by l.length
 decreasing_by exact yn (λe=>by rw[e]at h;simp at h)
theorem qbv{l:qa}(h:10∈l):zx l=upto 10 l::zx (past 10 l):=by rw[zx,dif_pos h]
theorem qbw{l:qa}(h:10∉l):zx l=[l]:=by rw[zx,dif_neg h]
theorem q37:∀(n:Nat)(l:qa),l.length<=n->Lib.splitK [10] 0 (Lib.count l [10]) l=zx l
 |n,l,hn=>by
  by_cases h:10∈l
  .have hi:=qti 10 l h
   have d7:l≠[]:=λe=>by rw[e]at h;simp at h
   have e8:=yn (c:=10) d7;rw[qbv h,Lib.count_hit (i:=(upto 10 l).length) Sx hi,Nat.add_comm,Lib.splitK];rw[if_neg (by rw[hi];simp),hi]
   cases n with
   |zero=>exact absurd (Qm.1 Om) d7
   |succ n=>
    have:=q37 n (past 10 l) Om;simp only[Int.toNat_natCast,Xo,Qh,Qi,Qz,qks];rw[show List.drop ((upto 10 l).length+1) l=past 10 l from rfl,this]
  .have hi:Lib.index l [10]= -1:=by
    have:=Lib.index_ge l [10];have h2:¬0<=Lib.index l [10]:=λh'=>h ((qdo l 10).1 h');omega
   rw[qbw h,Lib.count_miss hi];rfl
theorem qib:∀(n:Nat)(l:qa),l.length<=n->(zx l).length<=l.length+1
 |n,l,hn=>by
  by_cases h:10∈l
  .have d7:l≠[]:=λe=>by rw[e]at h;simp at h
   have e8:=yn (c:=10) d7;rw[qbv h]
   cases n with
   |zero=>exact absurd (Qm.1 Om) d7
   |succ n=>
    have:=qib n (past 10 l) Om;simp only[Qh];omega
  .rw[qbw h];simp
theorem qh6:∀(n:Nat)(l:qa),l.length<=n->∀x∈zx l,x.length<=l.length∧10∉x
 |n,l,hn,x,hx=>by
  by_cases h:10∈l
  .have d7:l≠[]:=λe=>by rw[e]at h;simp at h
   have e8:=yn (c:=10) d7;rw[qbv h,Qq]at hx;rcases hx with rfl|hx
   .exact⟨vd 10 l,qd7 10 l⟩
   .cases n with
    |zero=>exact absurd (Qm.1 Om) d7
    |succ n=>
     have:=qh6 n (past 10 l) Om x hx;exact⟨Om,this.2⟩
  .rw[qbw h,Zy]at hx
   subst hx;exact⟨Qg _,h⟩
end Go.Pl
namespace Go.Proofs.YthnbabbhpeebbaaGreatDoor
open Go Go.Av Go.RowKit Go.Proofs Go.Pl
theorem qnn{f:FuncId}{st:List AObj}{args:List AV}{vals:Array Value}{xs:List qa}{T:TypeId}(ha:args=vals.toList.map .v)(d7:xs≠[])
  (h:∀B0 w0 w,E.L B0 w0->Below B0 w0 w->Calls E.P f vals w λe w'=>e=.returned (.slice (some ⟨w.heap.size,0,none⟩) xs.length xs.length)∧w'=w.alloc (.cells (xs.map λl=>Value.string ⟨l.toArray⟩).toArray T)):
  qm E f args st λr st'=>r=.sl 1 (xs.map λl=>Sv l) none∧st'=st:=by
 subst ha;refine⟨λB0 w0 G vs w hL hA hR=>?_⟩
 have hv:vs=vals:=by
  have hs:vs.size=vals.size:=by have:=hR.1;simpa using this.symm
  apply Xu hs;intro i h1 h2;have:=hR.2 i (.v vals[i]) vs[i] (by simp[h2]) (by simp[h1]);generalize vs[i]=y at this
  cases this
  rfl
 subst hv;refine(h B0 w0 w hL hA.below).mono ?_;rintro e w' ⟨rfl,rfl⟩;obtain⟨d8,hA'⟩:=hA.newPub T (xs.map λl=>Value.string ⟨l.toArray⟩).toArray (0,0) (xs.map λl=>Value.string ⟨l.toArray⟩) (λi y hy=>by simpa using hy);refine⟨_,_,_,st,rfl,d8,hA',?_,rfl,rfl⟩
 have r6:flat (xs.map λl=>Sv l)=xs.map λl=>Sv l:=by
  clear d7 h d8 hA'
  induction xs with
  |nil=>rfl
  |cons a xs ih=>rw[Qv,qbj,ih];rfl
 have:=Rel.sl (G:=G.publish w.heap.size (xs.map λl=>Value.string ⟨l.toArray⟩)) 1 (xs.map λl=>Sv l) none w.heap.size 0 xs.length (xs.map λl=>Value.string ⟨l.toArray⟩) (by simp[Gh.publish]) (λx hx=>by
  simp only[Zz]at hx;obtain⟨l,_,rfl⟩:=hx
  rfl) (by rw[r6];simp) (λi x y h1 h2=>by
  rw[r6,Qo]at h1;rw[Qz,Qo]at h2
  cases hx:xs[i]?with
  |none=>rw[hx]at h1;simp at h1
  |some l=>
   rw[hx]at h1 h2;simp at h1 h2;subst h1;subst h2
   exact .v _) (λt ht=>by simp at ht) Sx
 simpa using this
theorem q98(l:List UInt8)(st:List AObj)(hl:l.length<4294967281):qm E 222 [Sv l,Sv [10]] st λr st'=>r=.sl 1 ((zx l).map λx=>Sv x) none∧st'=st:=by
 have hd:=Lib.splitB_data ⟨#[10]⟩ 0 (Lib.countB ⟨l.toArray⟩ ⟨#[10]⟩) ⟨l.toArray⟩;have hs:Lib.splitK [10] 0 (Lib.count l [10]) l=zx l:=q37 _ l (Qg _);have hn:=Lib.splitB_all ⟨#[10]⟩ (by simp[ByteArray.size]) 0 _ ⟨l.toArray⟩ rfl;have hd2:(Lib.splitB ⟨#[10]⟩ 0 (Lib.countB ⟨l.toArray⟩ ⟨#[10]⟩) ⟨l.toArray⟩).map (·.data.toList)=zx l:=hd.trans hs;have b9:(zx l).length=Lib.countB ⟨l.toArray⟩ ⟨#[10]⟩+1:=by rw[<-hd2,Qn,hn]
 refine qnn (T:=9) (vals:= #[.string ⟨l.toArray⟩,.string ⟨#[10]⟩]) rfl (λe=>by rw[e]at b9;simp at b9) λ_ _ w hL hb=>(Tryz.strings_Split_shaped ⟨l.toArray⟩ ⟨#[10]⟩ w (hL w hb).shaped (by simpa[ByteArray.size]using hl) (by simp[ByteArray.size])).mono λe w' ⟨h1,h2⟩=>?_;refine⟨by rw[h1,b9],?_⟩;rw[h2,<-hd2,Zn];rfl
end Go.Proofs.YthnbabbhpeebbaaGreatDoor
namespace Go.Av
open Go Go.RowKit
section
variable {E : Env} {N : Nat} {ops : Array Oper} {K : AS → Prop} {s : AS} {rest : List Oper} {d : Option Tmp} {T : TypeId} {p : String} {af : Array Edge}
theorem qsl{x:Operand}{t:TypeId}{sz:Nat}{agg:Bool}{o ver off:Nat}{T':TypeId}{cs:List AV}{r:AV}(hx:qg N s x=.bx o ver off)(ho:s.st[o]?=some (.cells ver T' cs))(ht:tyOf E.P t=some (sz,agg))(hr:jy sz agg off cs=some r)
  (h:AQ E N ops rest K (s.put d r)):AQ E N ops (⟨d,.load t x,T,p,af,none⟩::rest) K s:=by
 refine qex rfl nofun λB0 w0 G a w _ hI=>?_;have he:=hI.eval_of hx;generalize hv:a.eval x=v at he
 cases he with
 |bx _ _ _ b hn dx hb=>
  obtain⟨_,h1,h2,h3,c,h4,h5,h6⟩:=hI.agree.ob o _ ho;have hb:=hb h1;subst hb
  have e8:(G.ob o).blk<w.heap.size:=by
   rcases Zf (G.ob o).blk w.heap.size with h'|h'
   .exact h'
   .rw[Zr h']at h4;simp at h4
  -- the value is read out of the cells, whatever is drawn behind them
  have key:∀w',Below w.heap.size w w'->∃v,(loadVar t ⟨(G.ob o).blk,off,none⟩).run E.P w'=.ok v w'∧Rel G r v:=λw' bp=>by
   have h4':w'.heap[(G.ob o).blk]?=some (.cells c T' (0,0)):=by rw[bp.block _ e8];exact h4
   exact qau (w:=w') (G:=G) (b:=(G.ob o).blk) (off:=off) (off':=off) ht (λi x hx hi=>by
    obtain⟨y,hy⟩:=wg hx (Xp h5);refine⟨y,?_,h6 i x y hx hy⟩
    simp[World.cell?,h4',show off+(i-off)=i by omega,hy]) hr
  have pd:∀w',Below w.heap.size w w'->∀v,(loadVar t ⟨(G.ob o).blk,off,none⟩).run E.P w=.ok v w->(loadVar t ⟨(G.ob o).blk,off,none⟩).run E.P w'=.ok v w':=λw' bp v hr1=>by
   obtain⟨i1,i2⟩:=vj ht w;obtain⟨j1,j2⟩:=vj ht w';have hc:∀k,w'.cell? ⟨(G.ob o).blk,k,none⟩=w.cell? ⟨(G.ob o).blk,k,none⟩:=λk=>by simp[World.cell?,bp.block _ e8]
   obtain⟨v',h1',_⟩:=key w' bp;rw[h1'];congr 1
   cases agg with
   |false=>
    simp only[jy,cond_false]at hr;obtain⟨y,hy⟩:=wg hr (Xp h5);have e1:w.cell? ⟨(G.ob o).blk,off,none⟩=some y:=by simp[World.cell?,h4,hy]
    have e2:w'.cell? ⟨(G.ob o).blk,off,none⟩=some y:=by rw[hc,e1]
    simp[loadVar,i2,run_load,e1]at hr1;simp[loadVar,j2,run_load,e2]at h1'
    rw[<-h1',hr1]
   |true=>
    simp only[jy,cond_true]at hr
    cases gp:Xc (off+sz) cs.length with
    |false=>rw[gp]at hr;simp at hr
    |true=>
     have d8:off+sz<=cs.length:=Qd gp
     have e1:∀j,j<sz->w.cell? ⟨(G.ob o).blk,off+j,none⟩=some (c.getD (off+j) undef):=λj hj=>by
      have:off+j<c.size:=Om
      simp[World.cell?,h4,this]
     have e2:∀j,j<sz->w'.cell? ⟨(G.ob o).blk,off+j,none⟩=some (c.getD (off+j) undef):=λj hj=>by rw[hc,e1 j hj]
     have l1:=run_loadCells (P:=E.P) (w:=w) ⟨(G.ob o).blk,off,none⟩ sz (λj=>c.getD (off+j) undef) (λj hj=>by rw[Addr.add_lit];exact e1 j hj);have l2:=run_loadCells (P:=E.P) (w:=w') ⟨(G.ob o).blk,off,none⟩ sz (λj=>c.getD (off+j) undef) (λj hj=>by rw[Addr.add_lit];exact e2 j hj);simp[loadVar,i1,i2,l1]at hr1;simp[loadVar,j1,j2,l2]at h1';rw[<-h1',hr1]
  obtain⟨v,a8,hR⟩:=key w (Below.refl _ _);exact⟨v,r,λw' bp=>by simp only[execOp,hv,Instr.loadAt,Instr.sureAddr];simp[pd w' bp v a8],hR,h⟩
end
end Go.Av
namespace Go.Av
open Go Go.RowKit
section
variable {E : Env} {rd : Option Nat} {N : Nat} {ops : Array Oper} {K : AS → Prop} {s : AS} {rest : List Oper} {d : Option Tmp} {T : TypeId} {p : String} {af : Array Edge}
theorem qkw{x:Operand}{t:TypeId}{sz:Nat}{agg:Bool}{st loc:List AObj}{k ver off:Nat}{T':TypeId}{cs:List AV}{r:AV}(hs:s.st=st++loc)(hx:qg N s x=.bx (st.length+k) ver off)(ho:loc[k]?=some (.cells ver T' cs))(ht:tyOf E.P t=some (sz,agg))(hr:jy sz agg off cs=some r)
  (h:AQ E N ops rest K (s.put d r)):AQ E N ops (⟨d,.load t x,T,p,af,none⟩::rest) K s:=
 qsl hx (by rw[hs];exact jl ho) ht hr h
end
end Go.Av
namespace Go.Proofs.YthnbabbhpeebbaaGreatDoor
open Go Go.Av Go.RowKit Go.Proofs Go.Pl
structure qda where
 kind:Int
 key:qa
 text:qa
 lo:Int
 hi:Int
abbrev FldV:=qa×qa
@[reducible] def fldA (f : FldV) : AV := .ag [Sv f.1, Sv f.2]
@[reducible] def wn (l : List FldV) : AV := .sl 2 (l.map fldA) none
def zd2(r:qda):Prop:=1<=r.kind∧r.kind<=7∧(r.kind=6∨qd3 r.key)
instance (r:qda):Decidable (zd2 r):=inferInstanceAs (Decidable (_∧_∧_))
def q4e(l:qa):List qa:=if l=[]then []else zx l
theorem q9r(xs:List qa):Pure (.sl 1 (xs.map λx=>Sv x) none):=qc9 λx hx=>by
 simp only[Zz]at hx;obtain⟨l,_,rfl⟩:=hx;intro y hy;simp[AV.cells]at hy;subst hy;exact qw _
def qpr(r:qda)(n:Int):Prop:=r.lo<=n∧n<=r.hi
instance (r:qda)(n:Int):Decidable (qpr r n):=inferInstanceAs (Decidable (_∧_))
def q3y(r:qda)(l:qa):Prop:=∃n,numZ l=some n∧qpr r n
instance (r:qda)(l:qa):Decidable (q3y r l):=
 match h:numZ l with
 |some n=>decidable_of_iff (qpr r n) ⟨λh'=>⟨n,h,h'⟩,λ⟨m,h1,h2⟩=>by rw[h]at h1;cases h1;exact h2⟩
 |none=>.isFalse λ⟨m,h1,_⟩=>by rw[h]at h1;cases h1
def q1j(r:qda)(f:FldV):Prop:=
 (r.kind=3->f.1=r.key->q3y r f.2)∧(r.kind=4->f.1=r.key->f.2∈q4e r.text)∧(r.kind=5->f.1=r.key->qpr r f.2.length)∧(r.kind=6->f.1∈q4e r.text)
instance (r:qda)(f:FldV):Decidable (q1j r f):=inferInstanceAs (Decidable (_∧_∧_∧_))
def qo5(key:qa)(xs:List FldV):List qa:=(xs.filter λf=>f.1=key).map Xv
def zet(r:qda)(xs:List FldV):Prop:=zd2 r∧((r.kind=1∧(qo5 r.key xs).length=0)∨(r.kind=2∧1<(qo5 r.key xs).length)∨(r.kind≠1∧r.kind≠2∧xs.any (λf=> !decide (q1j r f))=true))
instance (r:qda)(xs:List FldV):Decidable (zet r xs):=inferInstanceAs (Decidable (_∧(_∨_∨_)))
def badR(r:qda)(f:FldV):Bool:= !decide (q1j r f)
def cntR(r:qda)(xs:List FldV):Nat:=if r.kind=6 then 0 else(qo5 r.key xs).length
end Go.Proofs.YthnbabbhpeebbaaGreatDoor
namespace Go.Av
open Go Go.RowKit Go.WideShapes Go.ChangeShapes Go.Deep
def gW(W:World):Gh:=⟨λb=>match W.heap[b]?with|some (.cells c _ _)=>some c.toList|_=>none,λ_=>⟨0,0,0,false⟩,0⟩
theorem zhp{W:World}{b:Nat}{c:Array Value}{T:TypeId}{fz:Nat×Nat}(h:W.heap[b]?=some (.cells c T fz)):(gW W).pub b=some c.toList:=by
 simp[gW,h]
theorem qx4(W:World):zb W.heap.size W (gW W) [] W:=by
 refine⟨Below.refl _ _,Qg _,rfl,λb vs h=>?_,λo x h=>by simp at h,λo o' x x' _ h=>by simp at h⟩;simp only[gW]at h;split at h
 .rename_i c T fz hb
  cases h
  exact⟨c,T,fz,hb,λi y hy=>by simpa using hy⟩
 .cases h
theorem qst{E:Env}{f:FuncId}{args:List AV}{vals:Array Value}{b:Bool}{W:World}(h:qm E f args [] λr st'=>r=Bv b∧st'=[])(hL:E.L W.heap.size W)(ha:RelL (gW W) args vals):
  Calls E.P f vals W λe w'=>e=.returned (.bool b)∧Below W.heap.size W w':=by
 refine(h.run W.heap.size W (gW W) vals W hL (qx4 W) ha).mono ?_;rintro e w' ⟨v,G',r,st',rfl,_,hA,hr,rfl,_⟩
 cases hr
 exact⟨rfl,hA.below⟩
theorem zc7{G:Gh}:RelL G [] #[]:=⟨rfl,λi x y h=>by simp at h⟩
theorem qw0{G:Gh}{a:AV}{us:List AV}{v:Value}{vs:List Value}(h:Rel G a v)(hs:RelL G us vs.toArray):RelL G (a::us) (v::vs).toArray:=by
 refine⟨by simpa using hs.1,λi x y hx hy=>?_⟩
 cases i with
 |zero=>simp at hx hy;subst hx;subst hy;exact h
 |succ i=>exact hs.2 i x y (by simpa using hx) (by simpa using hy)
def RelK(G:Gh)(us:List AV)(cs:List Value):Prop:=us.length=cs.length∧∀(i:Nat)(x:AV)(y:Value),us[i]?=some x->cs[i]?=some y->Rel G x y
theorem qrq{G:Gh}{a:AV}{v:Value}(h:Rel G a v):RelK G [a] [v]:=⟨rfl,λi x y hx hy=>by
 cases i with
 |zero=>simp at hx hy;subst hx;subst hy;exact h
 |succ i=>simp at hx⟩
theorem RelK.one{G:Gh}{a:AV}{v:Value}(h:RelK G [a] [v]):Rel G a v:=h.2 0 a v rfl rfl
def Opn(P:Program)(t:TypeId)(S:AV->Prop):Prop:=∀(H:Type)(enc:TypeId×Value->H)(W:World)(fuel:Nat)(cs:List Value)(x:DataW H×List MemPlace),
 DataW.trod enc P W 0 (λ_=>true) true fuel t cs=some x->∃a,S a∧RelK (gW W) a.cells cs
def IsI(k:IntKind)(a:AV):Prop:=∃n:Int,a=.v (.int k n)∧(Lit.int k n).wf=true
def IsSl(sz:Nat)(S:AV->Prop)(a:AV):Prop:=∃xs:List AV,a=.sl sz xs none∧xs.length<=maxLen∧∀x∈xs,S x
def IsAg(Ss:List (AV->Prop))(a:AV):Prop:=∃vs:List AV,a=.ag vs∧vs.length=Ss.length∧∀(i:Nat)(S:AV->Prop)(v:AV),Ss[i]?=some S->vs[i]?=some v->S v
def One(S:AV->Prop):Prop:=∀a,S a->a.cells=[a]
theorem zd6(k:IntKind):One (IsI k):=by rintro _ ⟨l,rfl,_⟩;rfl
theorem zia(sz:Nat)(S:AV->Prop):One (IsSl sz S):=by rintro _ ⟨l,rfl,_⟩;rfl
theorem zi9(s:ByteArray):Sv s.data.toList=.v (.string s):=by cases s;simp
theorem q56{P:Program}{t:TypeId}{k:IntKind}(hu:P.underlying t=some (.int k)):Opn P t (IsI k):=by
 intro H enc W fuel cs x h;obtain⟨n,rfl,_,hs⟩:=DataW.trod_int hu h;exact⟨_,⟨n,rfl,hs⟩,qrq (.v _)⟩
theorem qp3{n:Nat}{Q:Nat->AV->Prop}(h:∀i,i<n->∃a,Q i a):∃vs:List AV,vs.length=n∧∀i v,vs[i]?=some v->Q i v:=by
 induction n with
 |zero=>exact⟨[],rfl,λi v h=>by simp at h⟩
 |succ n ih=>
  obtain⟨vs,hl,hv⟩:=ih λi hi=>h i Om;obtain⟨a,ha⟩:=h n Om;refine⟨vs++[a],by simp[hl],λi v hi=>?_⟩;rcases Zf i n with hc|hc
  .rw[Qc Om]at hi
   exact hv i v hi
  .rw[Qf Om]at hi
   have:i-vs.length=0:=by
    rcases Xa (i-vs.length)with h0|h0
    .exact h0
    .rw[Qu So]at hi;cases hi
   rw[this]at hi;simp at hi;subst hi;have:i=n:=Om
   subst this;exact ha
theorem zib{P:Program}{t:TypeId}{fs:Array Field}{Ss:List (AV->Prop)}(hu:P.underlying t=some (.struct fs))(p6:oneCellFields P fs=true)(hC:P.cellsOf t=fs.size)(hl:Ss.length=fs.size)
  (hS:∀(i:Nat)(f:Field)(S:AV->Prop),fs[i]?=some f->Ss[i]?=some S->Opn P f.type S∧One S):Opn P t (IsAg Ss):=by
 intro H enc W fuel cs x h;obtain⟨xs,n,_,_,pg,hxl,hf⟩:=DataW.trod_struct hu h;have hcs:cs.length=fs.size:=pg.trans hC
 have step:∀i,i<fs.size->∃a:AV,(∀S,Ss[i]?=some S->S a)∧∀y,cs[i]?=some y->Rel (gW W) a y:=by
  intro i hi;have gk:fs[i]?=some fs[i]:=Zk hi;have hSi:Ss[i]?=some (Ss[i]'(by omega)):=Qe Om;obtain⟨hO,h1⟩:=hS i _ _ gk hSi;obtain⟨ho,hk⟩:=hone_of p6 i _ gk;have ht:=hf i _ gk;rw[ho,hk]at ht
  have hd:(cs.drop i).take 1=[cs[i]'(by omega)]:=by
   rw[Zj Om];rfl
  rw[hd,Qe Om]at ht;obtain⟨a,ha,hr⟩:=hO H enc W n _ _ ht;rw[h1 a ha]at hr;refine⟨a,λS hs=>?_,λy hy=>?_⟩
  .rw[hSi]at hs;cases hs;exact ha
  .rw[Qe Om]at hy;cases hy;exact hr.one
 obtain⟨vs,hvl,hv⟩:=qp3 step;refine⟨.ag vs,⟨vs,rfl,Om,λi S v hs hvi=>(hv i v hvi).1 S hs⟩,by show vs.length=cs.length;omega,λi x y hx hy=>(hv i x hx).2 y hy⟩
theorem q3c{W:World}{a:Addr}{n:Nat}{v:Value}(h:W.cell? (a.add n)=some v):∃(c:Array Value)(T:TypeId)(fz:Nat×Nat),W.heap[a.block]?=some (.cells c T fz)∧c[a.off+n]?=some v∧(n=0->a.spot=none):=by
 unfold World.cell? Addr.add at h;by_cases hn:n=0
 .subst hn
  simp only[if_true]at h;split at h
  .rename_i c T fz hb
   split at h
   .cases h
   .rename_i hs
    exact⟨c,T,fz,hb,by simpa using h,λ_=>by simpa using hs⟩
  .cases h
 .rw[if_neg hn]at h
  simp only at h;split at h
  .rename_i c T fz hb
   exact⟨c,T,fz,hb,by simpa using h,λe=>absurd e hn⟩
  .cases h
theorem zic{P:Program}{t e:TypeId}{sz:Nat}{S:AV->Prop}(hu:P.underlying t=some (.slice e))(hC:P.cellsOf e=sz)(hz:0<sz)(hS:Opn P e S):Opn P t (IsSl sz S):=by
 intro H enc W fuel cs x h;rcases open_slice hu h with⟨rfl,_⟩|⟨a,len,cap,m,n,D,Pl,rfl,_,hlc,tn,hm,_,mw⟩
 .exact⟨.sl sz [] none,⟨[],rfl,Sx,Sx⟩,qrq (.sl0 sz none _ _ Sx)⟩
 .have hm':len<=m:=by rw[hm];simpa using hlc
  rw[hC]at mw
  have step:∀i,i<len->∃y:AV,S y∧y.cells.length=sz∧∀j,j<sz->∃(u:AV)(v:Value),y.cells[j]?=some u∧W.cell? (a.add (i*sz+j))=some v∧Rel (gW W) u v:=by
   intro i hi;obtain⟨cs',hc,ht⟩:=mw i Om;obtain⟨_,pg,gc⟩:=World.cells?_some hc;obtain⟨y,hy,hr⟩:=hS H enc W n cs' _ ht;refine⟨y,hy,hr.1.trans pg,λj hj=>?_⟩;have h1:y.cells[j]?=some (y.cells[j]'(by rw[hr.1,pg];exact hj)):=Qe _;have h2:cs'[j]?=some (cs'[j]'(by omega)):=Qe _;refine⟨_,_,h1,?_,hr.2 j _ _ h1 h2⟩;rw[<-Go.Deep.add_add,gc j hj,h2]
  obtain⟨xs,hxl,hx⟩:=qp3 step
  have dq:∀y∈xs,S y∧y.cells.length=sz:=λy hy=>by
   obtain⟨i,hi,rfl⟩:=List.mem_iff_getElem.1 hy;have:=hx i xs[i] (Qe hi);exact⟨this.1,this.2.1⟩
  refine⟨.sl sz xs none,⟨xs,rfl,Om,λy hy=>(dq y hy).1⟩,qrq ?_⟩;rcases Xa len with h0|h0
  .subst h0
   have:xs=[]:=Qm.1 hxl;subst this;exact .sl0 sz none _ _ Sx
  .have r6:(flat xs).length=len*sz:=by rw[jh λy hy=>(dq y hy).2,hxl]
   have at0:∀k,k<len*sz->∃(u:AV)(v:Value),(flat xs)[k]?=some u∧W.cell? (a.add k)=some v∧Rel (gW W) u v:=by
    intro k hk;have hq:k / sz<len:=(Nat.div_lt_iff_lt_mul hz).2 hk;have hr:k%sz<sz:=Nat.mod_lt _ hz;have e:k / sz*sz+k%sz=k:=by rw[Nat.mul_comm];exact Nat.div_add_mod k sz
    have hxi:xs[k / sz]?=some (xs[k / sz]'(by omega)):=Qe _;obtain⟨_,_,hj⟩:=hx _ _ hxi;obtain⟨u,v,h1,h2,h3⟩:=hj _ hr;have:=qjd (sz:=sz) (λy hy=>(dq y hy).2) hxi _ hr;rw[e]at this h2;exact⟨u,v,this.trans h1,h2,h3⟩
   have pt:0<len*sz:=Nat.mul_pos h0 hz;obtain⟨_,_,_,hc0,_⟩:=at0 0 pt;obtain⟨c,T,fz,hb,_,hspot⟩:=q3c hc0
   have lg:∀k,k<len*sz->∃(u:AV)(v:Value),(flat xs)[k]?=some u∧c.toList[a.off+k]?=some v∧Rel (gW W) u v:=by
    intro k hk;obtain⟨u,v,h1,h2,h3⟩:=at0 k hk;obtain⟨c',T',fz',lx,hv,_⟩:=q3c h2;rw[hb]at lx
    cases lx
    exact⟨u,v,h1,by simpa using hv,h3⟩
   obtain⟨b,off,spot⟩:=a;have hs:=hspot rfl;simp only at hs hb lg;subst hs;rw[<-hxl];refine .sl sz xs none b off cap c.toList (zhp hb) (λy hy=>(dq y hy).2) ?_ ?_ ?_ Om
   .obtain⟨_,_,_,hv,_⟩:=lg (len*sz-1) Om
    have:=(Zl.1 hv).1;omega
   .intro i x y g9 hy'
    have hi:i<len*sz:=by rw[<-r6];exact(Zl.1 g9).1
    obtain⟨u,v,h1,h2,h3⟩:=lg i hi;rw[g9]at h1;rw[hy']at h2
    cases h1
    cases h2
    exact h3
   .intro t ht
    simp at ht
def qe5(P:Program)(t:TypeId):Array Field:=match P.underlying t with|some (.struct fs)=>fs|_=> #[]
theorem q55{P:Program}{t:TypeId}{As:List (Option TypeDesc×(AV->Prop))}(hu:P.underlying t=some (.struct (qe5 P t)))(p6:oneCellFields P (qe5 P t)=true)(hC:P.cellsOf t=(qe5 P t).size)
  (hF:(qe5 P t).toList.map (λf=>P.underlying f.type)=As.map Prod.fst) (hA:∀p∈As,(∀u,P.underlying u=p.1->Opn P u p.2)∧One p.2):Opn P t (IsAg (As.map Xv)):=by
 have hl:As.length=(qe5 P t).size:=by have:=congrArg Xe hF;simpa using this.symm
 refine zib hu p6 hC (by simpa using hl) λi f S hf hS=>?_;obtain⟨p,hp,rfl⟩:∃p,As[i]?=some p∧p.2=S:=by simpa using hS
 have h1:((qe5 P t).toList.map (λf=>P.underlying f.type))[i]?=some (P.underlying f.type):=by simp[hf]
 rw[hF,Qo,hp]at h1;obtain⟨a,b⟩:=hA p (Zg hp);exact⟨a _ (by simpa using h1.symm),b⟩
theorem zi5{G:Gh}(s:ByteArray):Rel G (Sv s.data.toList) (.string s):=by rw[zi9];exact .v _
theorem za3{H:Type}{enc:TypeId×Value->H}{P:Program}{W W':World}{t:TypeId}(hl:laidOutB P=true)(hr:P.readableRec t=true)(hrow:t<P.types.size){sp:Nat->Bool}{v:Value}{d:DataW H}{ps:List MemPlace}
  (hd:DataW.Trod enc P W 0 (λ_=>true) true t v d ps) (hb:Below W.heap.size W W') (e8:∀p∈ps,p.block<W.heap.size) (hs:∀p∈ps,sp p.block=true):DataW.Trod enc P W' 0 sp true t v d ps:=
 Go.WideElems.Trod_stays hl hr hrow hd (λp hp=>hb.same (e8 p hp)) hs
end Go.Av
namespace Go.Proofs.YthnbabbhpeebbaaGreatDoor
open Go Go.Av Go.RowKit Go.Proofs Go.Pl
structure qt where
 kind:Int
 id:Int
 fields:List FldV
@[reducible] def ye (e : qt) : AV := .ag [Iv e.kind, Iv e.id, wn e.fields]
def qbm(k:Int):qa:=if k=1 then [32,114,101,112,108,97,99,101,32]else if k=2 then [32,100,101,108,101,116,101,32]else if k=3 then [32,105,110,115,101,114,116,32]else []
def vv(e:qt):qa:=if 1<=e.kind∧e.kind<=3 then qbm e.kind++Lib.itoa e.id else []
def qbs(k:Int):qa:=if k=1 then [114,101,112,108,97,99,101]else if k=2 then [100,101,108,101,116,101]else if k=3 then [105,110,115,101,114,116]else []
theorem qui(k:Int)(st:List AObj):qm E 176 [Iv k] st λr st'=>r=Sv (qbs k)∧st'=st:=by
 refine ze (qw _) (qq Tryz.func176 rfl (Qd rfl) ?_);repeat' (first|apply qp|apply zm|apply qi|apply qh|apply ql|apply qj|(apply zh;(iterate 3 exact rfl))|(apply qe;exact rfl;apply cd_d<;>intro h)|apply za|apply q7)
 all_goals refine qo rfl (zt rfl) ⟨congrArg (λl:qa=>Sv l) (?_:_=qbs k),_,rfl⟩
 all_goals simp_all[qbs]
theorem zaq(k:Int):(qbs k).length<=7:=by
 unfold qbs;repeat' split
 all_goals simp
theorem q2f(k:Int):qbm k=if qbs k=[]then []else [32]++qbs k++[32]:=by
 unfold qbm qbs;repeat' split
 all_goals simp_all
theorem zar(k:Int):qbs k=[]↔¬(1<=k∧k<=3):=by
 unfold qbs;repeat' split
 all_goals simp_all
 omega
theorem zhx(e:qt)(st:List AObj)(h1: -9223372036854775808<=e.id)(h2:e.id<=9223372036854775807):qm E 131 [ye e] st λr st'=>r=Sv (vv e)∧st'=st:=by
 refine ze (qw _) (qq Tryz.func131 rfl (Qd rfl) ?_);have hn:=Lib.itoa_length_le e.id h1 h2;have hw:=zaq e.kind;have ho:=q2f e.kind;have hz:=zar e.kind;repeat' (first|apply qp|apply qi|apply qh|apply ql|apply qj|(apply j5;(iterate 3 exact rfl))|(apply qe;exact rfl;apply cd_d<;>intro h)|(apply vb;exact rfl;exact rfl;exact cOs)|(apply qch;(iterate 4 exact rfl))|(apply zr;(iterate 3 exact rfl))|(apply ve;(iterate 5 exact rfl))|apply za|apply q7|(apply qk;exact Tryz.call176;exact qui _ _)|(apply qk;exact Tryz.call153;exact qof _ _ h1 h2))
 all_goals refine qo rfl (zt rfl) ⟨congrArg (λl:qa=>Sv l) (?_:_=vv e),_,rfl⟩
 all_goals unfold vv
 .rw[if_neg (by simp_all)]
 .rw[if_pos (by simp_all),ho,if_neg (by assumption)]
end Go.Proofs.YthnbabbhpeebbaaGreatDoor
namespace Go.Av
open Go Go.RowKit
def noop(o:Oper):Oper:={o with op:=.move (.const undef),guard:=none}
section
variable {F : Fence} {n : Nat} {P : Program} {ops ops' : Array Oper} {md : Region.Mode} {C : World → Prop} {Q : Exit → Act → World → Prop} {k : Nat} {o : Oper}
theorem qll{listed:Array Bool}:∀k,listed.getD k true=false->∃j,j<=k∧listed.getD j true=false∧∀i,i<j->listed.getD i true=true:=by
 intro k
 induction k using Nat.strongRecOn with
 |_ k ih=>
  intro h;by_cases i6:∀i,i<k->listed.getD i true=true
  .exact⟨k,Qg _,h,i6⟩
  .have ⟨i,hi⟩:=Classical.not_forall.1 i6
   have ⟨hi1,mc⟩:=Classical.not_imp.1 hi;obtain⟨j,h1,h2,h3⟩:=ih i hi1 (by simpa using mc);exact⟨j,Om,h2,h3⟩
theorem qxq{listed:Array Bool}{i:Nat}(h:listed.getD i true=true)(hi:i<listed.size):listed.getD i false=true:=by
 simp[Zm,hi]at h⊢;exact h
theorem q2d{listed:Array Bool}{i:Nat}(h:listed.getD i true=false)(h2:listed.getD i false=true):False:=by
 unfold Zm at h h2;by_cases hi:i<listed.size
 .rw[dif_pos hi]at h h2
  rw[h]at h2
  cases h2
 .rw[dif_neg hi]at h
  cases h
theorem qqn{listed:Array Bool}{j:Nat}(o9:listed.size=ops.size)(pn:∀(j:Nat)o,ops[j]?=some o->∀e∈o.after,e.on<j)(hj:listed.getD j true=false)(i6:∀i,i<j->listed.getD i true=true):j∈Region.ready md ops listed:=by
 have e8:j<listed.size:=by
  rcases Zf j listed.size with h|h
  .exact h
  .simp[Zm,Nat.not_lt.2 h]at hj
 rw[mem_ready];have ho:ops[j]?=some ops[j]:=Zk Om;exact⟨hj,_,ho,λe he _=>qxq (i6 _ (pn j _ ho e he)) (by have:=pn j _ ho e he;omega)⟩
theorem qm2{listed:Array Bool}(hs:ops.size=ops'.size)(hk:ops[k]?=some o)(bn:ops'[k]?=some (noop o))(t8:∀j,j≠k->ops'[j]?=ops[j]?):Region.ready md ops' listed=Region.ready md ops listed:=by
 unfold Region.ready;rw[hs];refine List.filter_congr λi _=>?_;by_cases h:i=k
 .subst h;rw[hk,bn];rfl
 .rw[t8 i h]
theorem q1o(hd:o.dst=none)(hk:ops[k]?=some o)(bn:ops'[k]?=some (noop o))(t8:∀j,j≠k->ops'[j]?=ops[j]?)(t:Array Value):yielded ops' t=yielded ops t:=by
 funext j;unfold yielded;by_cases h:j=k
 .subst h;rw[hk,bn];simp[noop,hd]
 .rw[t8 j h]
theorem qo6(hro:F.round=none)(o9:ops.size=ops'.size)(hk:ops[k]?=some o)(bn:ops'[k]?=some (noop o))(t8:∀j,j≠k->ops'[j]?=ops[j]?)(hd:o.dst=none)
  (pn:∀(j:Nat)o,ops[j]?=some o->∀e∈o.after,e.on<j) (hcov:∀j,j<ops.size->j≠k->∃e∈o.after,Region.binds md e=true∧e.on=j):
  ∀(fuel:Nat)(listed:Array Bool)(a:Act)(w:World),C w->listed.size=ops.size->listed.getD k true=false->wpAnyQIn F n P md ops' C (λa=>∀w,C w->wpOpIn F n P ops Q k (Q .normal) a w) fuel listed a->wpAnyIn F n P md ops Q fuel listed a w
 |0,listed,a,w,hC,hs,sm,h=>by
  have ⟨j,_,h2,h3⟩:=qll k sm;have:=qqn (md:=md) hs pn h2 h3;rw[<-qm2 o9 hk bn t8,h.1]at this
  cases this
 |fuel+1,listed,a,w,hC,hs,sm,h=>by
  obtain⟨hq1,bw⟩:=h;rw[qm2 o9 hk bn t8]at hq1 bw;refine⟨λh0=>?_,λi hi=>?_⟩
  .have ⟨j,_,h2,h3⟩:=qll k sm
   have:=qqn (md:=md) hs pn h2 h3;rw[h0]at this
   cases this
  .have hqi:=bw i hi
   by_cases hik:i=k
   .subst hik
    obtain⟨_,o',e7,i6⟩:=mem_ready.1 hi;rw[hk]at e7
    cases e7
    have hr:Region.ready md ops (listed.setIfInBounds i true)=[]:=by
     rw[List.eq_nil_iff_forall_not_mem];intro j hj;obtain⟨hju,oj,hoj,_⟩:=mem_ready.1 hj
     have hjs:j<ops.size:=by
      rcases Zf j ops.size with h|h
      .exact h
      .rw[Zr h]at hoj;cases hoj
     by_cases fg:j=i
     .subst fg
      simp[Zm,hs,hjs]at hju
     .obtain⟨e,he,hb,heq⟩:=hcov j hjs fg
      have h5:=i6 e he hb;rw[heq]at h5;rw[getD_set_ne true (Ne.symm fg)]at hju;exact q2d hju h5
    unfold qOpIn at hqi;rw[bn]at hqi;simp only at hqi;have hqe:=hqi.2;have hwn:Region.wanted (noop o) (yielded ops' a.tmps)=true:=by simp[noop,Region.wanted]
    rw[if_pos hwn]at hqe;obtain⟨v,_,hK⟩:=hqe;have hput:a.put (noop o).dst v=a:=by simp[noop,hd,Act.put]
    rw[hput]at hK
    have hQ':∀w,C w->wpOpIn F n P ops Q i (Q .normal) a w:=by
     cases fuel with
     |zero=>exact hK.2
     |succ fuel=>exact hK.1 (by rw[qm2 o9 hk bn t8];exact hr)
    exact wpOpIn_mono (λa' w' h'=>wpAnyIn_done hr h' _) (hQ' w hC)
   .have he:qOpIn F n P ops C i (wpAnyQIn F n P md ops' C (λa=>∀w,C w->wpOpIn F n P ops Q k (Q .normal) a w) fuel (listed.setIfInBounds i true)) a:=by
     unfold qOpIn at hqi⊢;rw[t8 i hik]at hqi;rw[<-q1o hd hk bn t8];exact hqi
    refine wpOpIn_of_qOpIn hro hC (λa' w' hC' hX=>qo6 hro o9 hk bn t8 hd pn hcov fuel _ a' w' hC' (by simpa using hs) ?_ hX) he;rw[getD_set_ne true hik];exact sm
def qfp{α:Type}:List α->Option (List α×α)
 | []=>none
 | [x]=>some ([],x)
 |x::y::r=>match qfp (y::r)with
  |some (l,o)=>some (x::l,o)
  |none=>none
theorem qoy{α:Type}:∀{L l:List α}{o:α},qfp L=some (l,o)->L=l++[o]
 | [],_,_,h=>by simp[qfp]at h
 | [x],_,_,h=>by simp[qfp]at h;obtain⟨rfl,rfl⟩:=h;rfl
 |x::y::r,l,o,h=>by
  unfold qfp at h;split at h
  .rename_i l' o' he
   simp only[Zb,Xx]at h;obtain⟨rfl,rfl⟩:=h;rw[qoy he];rfl
  .simp at h
def q3f(o:Oper)(k:Nat):Bool:=(Xs k).all λj=>o.after.toList.any λe=>Region.binds .any e&&Xk e.on j
def q0o(ops:List Oper):Bool:=(Xs ops.length).all λj=>match ops[j]?with|some o=>o.after.toList.all λe=>Xw e.on j|none=>true
end
section
variable {E : Env} {N : Nat} {s : AS}
theorem q7e{id:Nat}{L l:List Oper}{o:Oper}{Q:Exit->AS->Prop}(s6:qfp L=some (l,o))(hd:o.dst=none)(hcov:q3f o l.length=true)(pn:q0o L=true)(hm:E.P.follows .mixedOrders=true)(hB:Region.lexB .any (l++[noop o]).toArray=true)
  (h:AQ E N (l++[noop o]).toArray l (λs'=>AOps E none N L.toArray [o] (Q .normal) s') s):AWp E none N (.region id L.toArray true) Q s:=by
 have hLe:=qoy s6;subst hLe;refine⟨λB0 w0 G a w hL hI=>?_⟩;have ng:=hB;simp only[Region.lexB,Xh]at ng;have hk:(l++[o]).toArray[l.length]?=some o:=Sx
 have bn:(l++[noop o]).toArray[l.length]?=some (noop o):=Sx
 have t8:∀j,j≠l.length->(l++[noop o]).toArray[j]?=(l++[o]).toArray[j]?:=λj hj=>by
  simp only[Zt];rcases Zf j l.length with h|h
  .rw[Qc h,Qc h]
  .rw[Qu So,Qu So]
 have hordP:∀(j:Nat)o',(l++[o]).toArray[j]?=some o'->∀e∈o'.after,e.on<j:=λj o' hj e he=>by
  simp only[q0o,Zc,Xl]at pn;simp only[Zt]at hj;have h1:=pn j (lt_of_getElem? hj);rw[hj]at h1;simp only at h1;have h2:=Zc.1 h1 e (by simpa using he);exact Qd h2
 have hcovP:∀j,j<(l++[o]).toArray.size->j≠l.length->∃e∈o.after,Region.binds .any e=true∧e.on=j:=λj hj d7=>by
  simp only[q3f,Zc,Xl]at hcov;have h1:=hcov j (by simp at hj;omega);obtain⟨e,he,h2⟩:=List.any_eq_true.1 h1;simp only[Xh]at h2;exact⟨e,by simpa using he,h2.1,Nat.eq_of_beq_eq_true h2.2⟩
 have hBl:Below w.heap.size w {w with drawn:=w.drawn+1}:=⟨rfl,rfl,rfl,Qg _,λ_ _=>rfl⟩;refine wpIn_region_any hm (qo6 (C:=λw'=>Below w.heap.size w w') (ops':=(l++[noop o]).toArray) (k:=l.length) rfl Sx hk bn t8 hd hordP hcovP _ _ _ _ hBl Sx (by simp[Zm]) ?_)
 have hq:wpQuietIn (fw none) 0 E.P (l++[noop o]).toArray (λw'=>Below w.heap.size w w') (λa=>∀w',Below w.heap.size w w'->wpOpIn (fw none) 0 E.P (l++[o]).toArray (λe a' w'=>∃(G':Gh)(s':AS),G.le G'∧Inv B0 w0 N G' s' a' w'∧Q e s') l.length (λa' w'=>∃(G':Gh)(s':AS),G.le G'∧Inv B0 w0 N G' s' a' w'∧Q .normal s') a w') (l++[noop o]) a:=by
  have step:∀(l1:List Oper)(a:Act)(X:Act->Prop),wpQuietIn (fw none) 0 E.P (l++[noop o]).toArray (λw'=>Below w.heap.size w w') X l1 a->wpQuietIn (fw none) 0 E.P (l++[noop o]).toArray (λw'=>Below w.heap.size w w') X (l1++[noop o]) a:=by
   intro l1
   induction l1 with
   |nil=>
    intro a X hX;refine⟨λ_ _ _ hf=>?_,?_⟩
    .simp[Oper.about,noop]at hf
    .have hwn:Region.wanted (noop o) (yielded (l++[noop o]).toArray a.tmps)=true:=by simp[noop,Region.wanted]
     rw[if_pos hwn];refine⟨undef,λw' _=>?_,?_⟩
     .unfold Oper.quietAtIn
      simp[noop,execOp,Oper.quietUponIn,Act.eval]
     .have hput:a.put (noop o).dst undef=a:=by simp[noop,hd,Act.put]
      rw[hput]
      exact hX
   |cons o1 l1 ih=>
    intro a X hX;refine⟨hX.1,?_⟩;have h2:=hX.2;split
    .rename_i hw
     rw[if_pos hw]at h2;obtain⟨v,h3,h4⟩:=h2;exact⟨v,h3,ih _ _ h4⟩
    .rename_i hw
     rw[if_neg hw]at h2;exact ih _ _ h2
  refine step l a _ (h.run B0 w0 G a w hL hI _ λs' a' u6 d9 sd w' bp=>?_);have rv:Inv B0 w0 N G s' a' w':=⟨u6.agree.fresh bp,u6.defers,u6.size,u6.tmps⟩;have hr:=sd.run B0 w0 G a' w' hL rv (λe a' w'=>∃(G':Gh)(s':AS),G.le G'∧Inv B0 w0 N G' s' a' w'∧Q e s') (λG' s'' a'' w'' hG hI3 hQ=>⟨G',s'',hG,hI3,hQ⟩);unfold wpOpIn;rw[hk];exact hr
 have:=wpAnyQIn_lex (F:=fw none) (n:=0) (C:=λw'=>Below w.heap.size w w') (md:=.any) ng.1 (l++[noop o]) 0 (Xj (l++[noop o]).length false) a Sx (by simpa using ng.2) hq
 simpa using this
variable {ops : Array Oper} {K : AS → Prop} {rest : List Oper} {d : Option Tmp} {T : TypeId} {p : String} {af : Array Edge}
theorem qnu{x y:Operand}{t t':TypeId}{m n:List UInt8}(hx:qg N s x=Sv m)(hy:qg N s y=Sv n)(hl:m.length+n.length<9223372036854775808)
  (h:AQ E N ops rest K (s.put d (Sv (m++n)))):AQ E N ops (⟨d,.binOp .add t x y t',T,p,af,none⟩::rest) K s:=
 qbd _ rfl nofun (λa w he=>by
  simp only[execOp,he _ _ hx,he _ _ hy,eqGuard_at_string,binOp,Op.stringOp,qav,qvt,IntKind.max_i64];rw[if_neg Om]
  simp) h
theorem qyl{x y:Operand}{t e:TypeId}{sz:Nat}{agg:Bool}{xs:List AV}{tip:Option Nat}{k:IntKind}{i:Int}{n:Nat}{z:AV}(hx:qg N s x=.sl sz xs tip)(hy:qg N s y=.v (.int k i))(hu:E.P.underlying t=some (.slice e))(ht:tyOf E.P e=some (sz,agg))(hi:i=n)(hz:xs[n]?=some z)
  (h:AQ E N ops rest K (s.put d (.pp z.cells))):AQ E N ops (⟨d,.indexAddr t x y,T,p,af,none⟩::rest) K s:=by
 refine qex rfl nofun λB0 w0 G a w _ hI=>?_;subst hi;have he:=hI.eval_of hx;have gr:=hI.evalv hy;generalize hv:a.eval x=v at he;have e8:=lt_of_getElem? hz
 cases he with
 |sl0=>simp at hz
 |sl _ _ _ b off cap pub hp hw b9 m8 htip s4=>
  have pf:z.cells.length=sz:=hw z (Zg hz);have r6:=jh hw;have d8:(n+1)*sz<=xs.length*sz:=Qj _ e8;rw[Xq]at d8;refine⟨.pointer (some ⟨b,off+n*sz,none⟩),.pp z.cells,λw' _=>?_,?_,h⟩
  .generalize a.eval=ρ at hv gr
   simp only[execOp,hv,gr];simp[Instr.indexAt,asIntOf,run_underlying hu,e8,(vj ht w').1,Addr.add_lit]
  .refine .pp _ b _ pub hp Om λj q r h1 h2=>?_
   have hj:j<sz:=by have:=lt_of_getElem? h1;omega
   have hf:=qjd hw hz j hj;exact m8 (n*sz+j) q r (by rw[hf];exact h1) (by rw[<-h2];congr 1;omega)
theorem qsk{x y:Operand}{t e:TypeId}{sz:Nat}{agg:Bool}{o ver off len cp:Nat}{k:IntKind}{i:Int}{n:Nat}(hx:qg N s x=.os o ver off len cp)(hy:qg N s y=.v (.int k i))(hu:E.P.underlying t=some (.slice e))(ht:tyOf E.P e=some (sz,agg))(hi:i=n)(hn:n<len)
  (h:AQ E N ops rest K (s.put d (.bx o ver (off+n*sz)))):AQ E N ops (⟨d,.indexAddr t x y,T,p,af,none⟩::rest) K s:=by
 refine qex rfl nofun λB0 w0 G a w _ hI=>?_;subst hi;have he:=hI.eval_of hx;have gr:=hI.evalv hy;generalize hv:a.eval x=v at he
 cases he with
 |os _ _ _ _ b cap sf dk hb=>
  refine⟨.pointer (some ⟨b,off+n*sz,none⟩),_,λw' _=>?_,.bx o ver _ b sf dk hb,h⟩;generalize a.eval=ρ at hv gr;simp only[execOp,hv,gr];simp[Instr.indexAt,asIntOf,run_underlying hu,hn,(vj ht w').1,Addr.add_lit]
theorem qj6{t:TypeId}{x:Operand}{f off sz:Nat}{agg:Bool}{o ver q:Nat}(hx:qg N s x=.bx o ver q)(hf:qa7 E.P t f=some (off,sz,agg))(o9:Xk sz 0=false)
  (h:AQ E N ops rest K (s.put d (.bx o ver (q+off)))):AQ E N ops (⟨d,.fieldAddr t x f,T,p,af,none⟩::rest) K s:=by
 refine qex rfl nofun λB0 w0 G a w _ hI=>?_;have he:=hI.eval_of hx;generalize hv:a.eval x=v at he
 cases he with
 |bx _ _ _ b hn dx hb=>
  have hs:sz≠0:=λe=>by subst e;simp at o9
  exact⟨_,_,λw' _=>by simp only[execOp,hv];simp[qha hf hs],.bx o ver _ b hn dx hb,h⟩
theorem qj7{t:TypeId}{x:Operand}{f off sz:Nat}{agg:Bool}{cs:List AV}(hx:qg N s x=.pp cs)(hf:qa7 E.P t f=some (off,sz,agg))(o9:Xk sz 0=false)(d8:Xc off cs.length=true)
  (h:AQ E N ops rest K (s.put d (.pp (cs.drop off)))):AQ E N ops (⟨d,.fieldAddr t x f,T,p,af,none⟩::rest) K s:=by
 refine qex rfl nofun λB0 w0 G a w _ hI=>?_;have he:=hI.eval_of hx;generalize hv:a.eval x=v at he
 cases he with
 |pp _ b q pub hp b9 m8=>
  have hs:sz≠0:=λe=>by subst e;simp at o9
  have ho:off<=cs.length:=Qd d8;refine⟨.pointer (some ⟨b,q+off,none⟩),_,λw' _=>by simp only[execOp,hv];simp[qha hf hs],?_,h⟩;exact .pp _ b (q+off) pub hp So λi x y h1 h2=>m8 (off+i) x y (by simpa using h1) (by rw[<-h2];congr 1;omega)
theorem ql0{x:Operand}{t:TypeId}{sz:Nat}{agg:Bool}{cs:List AV}{r:AV}(hx:qg N s x=.pp cs)(ht:tyOf E.P t=some (sz,agg))(hr:jy sz agg 0 cs=some r)
  (h:AQ E N ops rest K (s.put d r)):AQ E N ops (⟨d,.load t x,T,p,af,none⟩::rest) K s:=by
 refine qex rfl nofun λB0 w0 G a w _ hI=>?_;have he:=hI.eval_of hx;generalize hv:a.eval x=v at he
 cases he with
 |pp _ b off pub hp b9 m8=>
  obtain⟨c,T',fz,hc,hcc⟩:=hI.agree.pub b pub hp;have e8:b<w.heap.size:=hI.agree.pub_lt hp
  have key:∀w',Below w.heap.size w w'->∃v,(loadVar t ⟨b,off,none⟩).run E.P w'=.ok v w'∧Rel G r v:=λw' bp=>by
   have h4':w'.heap[b]?=some (.cells c T' fz):=by rw[bp.block _ e8];exact hc
   exact qau (w:=w') (G:=G) (b:=b) (off:=off) ht (λi x hx _=>by
    have hi:=lt_of_getElem? hx;have hy:pub[off+i]?=some (pub[off+i]'(by omega)):=Qe Om;refine⟨_,?_,m8 i x _ hx hy⟩
    simp[World.cell?,h4',hcc _ _ hy]) hr
  have hg:∀w',Below w.heap.size w w'->∀j,j<cs.length->w'.cell? ⟨b,off+j,none⟩=some (pub.getD (off+j) undef):=λw' bp j hj=>by
   have h4':w'.heap[b]?=some (.cells c T' fz):=by rw[bp.block _ e8];exact hc
   have hlt2:off+j<pub.length:=Om
   have hy:pub[off+j]?=some (pub.getD (off+j) undef):=by simp[Xt,hlt2]
   simp[World.cell?,h4',hcc _ _ hy]
  have pd:∀w',Below w.heap.size w w'->∀v,(loadVar t ⟨b,off,none⟩).run E.P w=.ok v w->(loadVar t ⟨b,off,none⟩).run E.P w'=.ok v w':=λw' bp v hr1=>by
   obtain⟨i1,i2⟩:=vj ht w;obtain⟨j1,j2⟩:=vj ht w';obtain⟨v',h1',_⟩:=key w' bp;rw[h1'];congr 1
   cases agg with
   |false=>
    simp only[jy,cond_false]at hr;have h0:=lt_of_getElem? hr;have e1:=hg w (Below.refl _ _) 0 h0;have e2:=hg w' bp 0 h0;rw[Xo]at e1 e2;simp[loadVar,i2,run_load,e1]at hr1;simp[loadVar,j2,run_load,e2]at h1'
    rw[<-h1',hr1]
   |true=>
    simp only[jy,cond_true]at hr
    cases gp:Xc (0+sz) cs.length with
    |false=>rw[gp]at hr;simp at hr
    |true=>
     have d8:0+sz<=cs.length:=Qd gp;have l1:=run_loadCells (P:=E.P) (w:=w) ⟨b,off,none⟩ sz (λj=>pub.getD (off+j) undef) (λj hj=>by rw[Addr.add_lit];exact hg w (Below.refl _ _) j Om);have l2:=run_loadCells (P:=E.P) (w:=w') ⟨b,off,none⟩ sz (λj=>pub.getD (off+j) undef) (λj hj=>by rw[Addr.add_lit];exact hg w' bp j Om);simp[loadVar,i1,i2,l1]at hr1;simp[loadVar,j1,j2,l2]at h1';rw[<-h1',hr1]
  obtain⟨v,a8,hR⟩:=key w (Below.refl _ _);exact⟨v,r,λw' bp=>by simp only[execOp,hv,Instr.loadAt,Instr.sureAddr];simp[pd w' bp v a8],hR,h⟩
theorem q69{x y:Operand}{t t':TypeId}{k:IntKind}{m n r:Int}(hx:qg N s x=.v (.int k m))(hy:qg N s y=.v (.int k n))(hr:k.wrap (m-n)=r)
  (h:AQ E N ops rest K (s.put d (.v (.int k r)))):AQ E N ops (⟨d,.binOp .sub t x y t',T,p,af,none⟩::rest) K s:=
 qbd _ rfl nofun (λa w he=>by rw[<-hr];simp[execOp,he _ _ hx,he _ _ hy,eqGuard_at_int,binOp,Op.intArith]) h
theorem q27{x y z:Operand}{t:TypeId}{k k':IntKind}{l:List UInt8}{i j:Nat}(hx:qg N s x=Sv l)(hy:qg N s y=.v (.int k' (i:Int)))(hz:qg N s z=.v (.int k (j:Int)))(hu:E.P.underlying t=some .string)(h1:i<=j)(h2:j<=l.length)
  (h:AQ E N ops rest K (s.put d (Sv ((l.take j).drop i)))):AQ E N ops (⟨d,.slice t x (some y) (some z) none,T,p,af,none⟩::rest) K s:=
 qqv (i:=i) (j:=j) hx hu ⟨_,hy⟩ ⟨_,hz⟩ Om Om Om (by simpa using h)
theorem q25{x:Operand}{ts:Array TypeId}{t0 e:TypeId}{v:AV}{n:Nat}(hx:qg N s x=v)(hl:lenA v=some n)(ht:ts[0]?=some t0)(hu:E.P.underlying t0=some (.slice e))
  (h:AQ E N ops rest K (s.put d (Iv n))):AQ E N ops (⟨d,.call ⟨.builtin .len,#[x],ts⟩,T,p,af,none⟩::rest) K s:=by
 refine qex rfl nofun λB0 w0 G a w _ hI=>?_;have he:=hI.eval_of hx
 have key:∃b c,a.eval x=.slice b n c:=by
  generalize a.eval x=u at he
  cases he<;>simp[lenA]at hl
  case v y=>
   cases u<;>simp at hl
   subst hl;exact⟨_,_,rfl⟩
  case sl0=>subst hl;exact⟨_,_,rfl⟩
  case sl=>subst hl;exact⟨_,_,rfl⟩
  case os=>subst hl;exact⟨_,_,rfl⟩
 obtain⟨b,c,hv⟩:=key;refine⟨.int .i64 n,Iv n,λw' _=>?_,.v _,h⟩;generalize a.eval=ρ at hv;simp[execOp,resolve,invoke,builtin,Builtin.len_,hv,ht,run_underlying hu,goInt]
theorem qpy{x:Operand}{t:TypeId}{sz:Nat}{agg:Bool}{st loc ext new:List AObj}{k ver off:Nat}{T':TypeId}{cs:List AV}{r:AV}(hs:s.st=((st++loc)++ext)++new)(hx:qg N s x=.bx (st.length+k) ver off)(ho:loc[k]?=some (.cells ver T' cs))(ht:tyOf E.P t=some (sz,agg))(hr:jy sz agg off cs=some r)
  (h:AQ E N ops rest K (s.put d r)):AQ E N ops (⟨d,.load t x,T,p,af,none⟩::rest) K s:=
 qsl hx (by rw[hs];exact qc7 ho) ht hr h
end
end Go.Av
namespace Go.Av
open Go Go.RowKit
section
variable {B0 : Nat} {w0 : World} {G : Gh} {st : List AObj} {w : World}
theorem zb.pubOb(h:zb B0 w0 G st w){o ver:Nat}{T:TypeId}{cs:List AV}(ho:st[o]?=some (.cells ver T cs)):
  ∃vs:List Value,G.le (G.publish (G.ob o).blk vs)∧zb B0 w0 (G.publish (G.ob o).blk vs) (st.set o .dead) w∧(G.ob o).ver=ver∧(G.publish (G.ob o).blk vs).pub (G.ob o).blk=some vs∧cs.length=vs.length∧
   ∀(i:Nat)(x:AV)(y:Value),cs[i]?=some x->vs[i]?=some y->Rel (G.publish (G.ob o).blk vs) x y:=by
 obtain⟨h0,h1,h2,h3,c,h4,h5,h6⟩:=h.ob o _ ho;have d8:G.le (G.publish (G.ob o).blk c.toList):=G.le_publish _ _ [] [] (.inl h3);refine⟨c.toList,d8,?_,h1,by simp[Gh.publish],by simpa using h5,λi x y hx hy=>(h6 i x y hx (by simpa using hy)).mono d8⟩
 have key:∀(k:Nat)(x:AObj),(st.set o .dead)[k]?=some x->x=.dead∨(k≠o∧st[k]?=some x):=λk x hx=>by
  rcases getElem?_set' _ _ _ _ _ hx with⟨_,e⟩|e
  .exact .inl e
  .exact .inr e
 refine⟨h.below,h.hB,by simp[h.n,Gh.publish],λb vs hb=>?_,λk x hx=>?_,λk k' x x' d7 hx g9 hl bq=>?_⟩
 .simp only[Gh.publish]at hb
  by_cases e:b=(G.ob o).blk
  .rw[if_pos e]at hb
   cases hb
   subst e;exact⟨c,T,(0,0),h4,λi y hy=>by simpa using hy⟩
  .rw[if_neg e]at hb
   exact h.pub b vs hb
 .rcases key k x hx with rfl |⟨hk,hx⟩
  .trivial
  .refine(h.ob k x hx).mono d8 rfl (λhl=>?_) (λ_=>rfl)
   have:=h.sep k o x _ hk hx ho hl trivial;simp[Gh.publish,this]
 .rcases key k x hx with rfl |⟨hk,hx⟩
  .exact hl.elim
  .rcases key k' x' g9 with rfl |⟨bn,g9⟩
   .exact bq.elim
   .exact h.sep k k' x x' d7 hx g9 hl bq
end
section
variable {E : Env} {rd : Option Nat} {N : Nat} {ops : Array Oper} {K : AS → Prop} {s : AS} {rest : List Oper} {d : Option Tmp} {T : TypeId} {p : String} {af : Array Edge}
theorem Inv.pub{B0:Nat}{w0:World}{G:Gh}{a:Act}{w:World}(h:Inv B0 w0 N G s a w){i o ver:Nat}{T':TypeId}{cs:List AV}(hi:s.t i=.bx o ver 0)(ho:s.st[o]?=some (.cells ver T' cs)):
  ∃G',G.le G'∧Inv B0 w0 N G' ⟨Av.put s.t i (.pp cs),s.st.set o .dead,s.df⟩ a w:=by
 obtain⟨vs,d8,hA,hv,hp,hl,hr⟩:=h.agree.pubOb ho;refine⟨_,d8,hA,h.defers_mono d8,h.size,λj y hy=>?_⟩;have hj:=h.tmps j y hy;by_cases e:j=i
 .subst e
  simp only[xh];rw[hi]at hj
  cases hj with
  |bx _ _ _ b hn dx hb=>
   have hb:=hb hv;subst hb;exact .pp cs _ 0 vs hp Om λk x y hx hy=>hr k x y hx (by simpa using hy)
 .simp only
  rw[qai _ _ _ _ e];exact hj.mono d8
theorem qdx{x y:Operand}{t:TypeId}{sz:Nat}{agg:Bool}{st loc loc' ext new:List AObj}{k ver off:Nat}{T':TypeId}{cs xs:List AV}{r:AV}(hs:s.st=((st++loc)++ext)++new)(hx:qg N s x=.bx (st.length+k) ver off)(hy:qg N s y=r)(ho:loc[k]?=some (.cells ver T' cs))(ht:tyOf E.P t=some (sz,agg))
  (hok:r.okc=true) (hc:r.cells=xs) (o9:Xk xs.length sz=true) (h1:va xs=true) (o7:Xc (off+sz) cs.length=true) (hl:loc'=loc.set k (.cells ver T' (z0 cs off xs)))
  (h:AOps E rd N ops rest K (AS.put ⟨s.t,((st++loc')++ext)++new,s.df⟩ d (.v undef))):AOps E rd N ops (⟨d,.store t x y,T,p,af,none⟩::rest) K s:=by
 have hk:=lt_of_getElem? ho;exact yo hx hy (by rw[hs];exact qc7 ho) ht hok hc o9 h1 o7 (by rw[hs,qi4 _ hk,<-hl];exact h)
end
theorem qjw{α:Type}(l:List α)(a:α):(l++[a]).length=l.length+1:=Sx
theorem qu4{α:Type}(l:List α)(a:α):Iv ((l.length:Int)+1)=Iv ((l++[a]).length:Nat):=by rw[qjw];rfl
theorem zdg{α:Type}{sz:Nat}{tip:Option Nat}(x0:AV)(g:α->AV)(pre:List α)(a:α)(v:AV)(h:v=g a):AV.sl sz ((x0::pre.map g)++[v]) tip=AV.sl sz (x0::(pre++[a]).map g) tip:=by rw[List.map_append,h];rfl
theorem q1q{E:Env}{rd:Option Nat}{N:Nat}{ops:Array Oper}{K:AS->Prop}{s:AS}{rest:List Oper}{d:Option Tmp}{T:TypeId}{p:String}{af:Array Edge}{t:TypeId}{st loc:List AObj}{cs:List AV}{n:Nat}(d9:s.st=st++loc)(hn:st.length=n)(hz:qi0 E.P t=some cs)
  (h:AOps E rd N ops rest K (AS.put ⟨s.t,st++(loc++[.cells 0 t cs]),s.df⟩ d (.bx (n+loc.length) 0 0))):AOps E rd N ops (⟨d,.alloc t,T,p,af,none⟩::rest) K s:=by
 subst hn;exact kj d9 hz h
theorem qhg{E:Env}{rd:Option Nat}{N:Nat}{c:Code}{Q:Exit->AS->Prop}{s:AS}{α:Type}(xs:List α)(I:List α->AS->Prop)(h0:I [] s)(pj:∀s,I xs s->AWp E rd N c (quf (λ_=>False) Q) s)
  (hstep:∀pre a rest s,xs=pre++a::rest->I pre s->AWp E rd N c (quf (λs'=>I (pre++[a]) s') Q) s):AWp E rd N (.loop c) Q s:=by
 refine xy (λ(x:List α×List α)s=>xs=x.1++x.2∧I x.1 s) (λx=>x.2.length) ([],xs) ⟨rfl,h0⟩ ?_;rintro⟨pre,rest⟩ s ⟨hx,hi⟩
 cases rest with
 |nil=>
  simp only[Qy]at hx;subst hx;refine(pj s hi).mono λe s' h=>?_
  cases e with
  |normal=>exact h.elim
  |_=>exact h
 |cons a rest=>
  refine(hstep pre a rest s hx hi).mono λe s' h=>?_
  cases e with
  |normal=>exact⟨(pre++[a],rest),⟨by rw[hx];simp,h⟩,Sx⟩
  |_=>exact h
theorem qxk{E:Env}{fn:Func}{R:AV->List AObj->Prop}{s:AS}{st loc ext new:List AObj}{k:Nat}{ds:List Nat}(hs:s.st=((st++loc)++ext)++new)(hd:s.df=(st.length+k)::ds)(ho:loc[k]?=some .dfr)(h:ARet E fn R ⟨s.t,((st++loc.set k .dead)++ext)++new,ds⟩):ARet E fn R s:=
 qnw hd (by rw[hs];exact qc7 ho) (by rw[hs,qi4 _ (lt_of_getElem? ho)];exact h)
@[reducible] def q91 (F : LoopState → Option Code → AObj) (st : List AObj) (own : AObj) (I : List AObj → Prop) (D : Code → List AObj → Prop) : Exit → AS → Prop
 |.normal,s=>∃l ext new,s.st=((st++(l++[.dfr,F .busy none,own]))++ext)++new∧I l
 |.ret,s=>∃l ext new,s.st=((st++(l++[.dfr,F .busy none,own]))++ext)++new∧D .ret l
 |.exit id,s=>∃l ext new,s.st=((st++(l++[.dfr,F .busy none,own]))++ext)++new∧D (.exit id) l
 |_,_=>False
theorem q11{E:Env}{o:Nat}{xs:List AV}{st st':List AObj}{R:Bool->List AObj->Prop}(e:st=st')(h:qaf E o xs st R):qaf E o xs st' R:=e▸h
theorem qdn{st l ext:List AObj}{a b c:AObj}{n:Nat}(hl:l.length=n):(((st++(l++[a,b,c]))++ext))[st.length+(n+1)]?=some b:=by
 subst hl;rw[Qa,Qa,Qf Om,Ql,Qf Om];simp
theorem qfo{st l ext:List AObj}{a b c y:AObj}{n:Nat}(hl:l.length=n):((st++(l++[a,b,c]))++ext).set (st.length+(n+1)) y=(st++(l++[a,y,c]))++ext:=by
 subst hl;rw[Qa,Qa,Qt _ _ Om,Ql,Qt _ _ Om];simp
theorem za6{E:Env}{N:Nat}{t:Nat->AV}{ps:Array Tmp}{asg body:Code}{st l ext:List AObj}{own:AObj}{n:Nat}{xs:List AV}{F:LoopState->Option Code->AObj}{I:List AObj->Prop}{D:Code->List AObj->Prop}(hF:qlu F N t ps asg body)(hl:l.length=n)(hps:ps.size=xs.length)
  (hI:∀l,I l->l.length=n) (hD:∀c l,D c l->l.length=n)
  (h:∀rd,AWp E (some rd) N asg (only λs1=>∃new,s1.st=((st++(l++[.dfr,F .ready none,own]))++ext)++new∧s1.df=[]∧AWp E (some rd) N body (q91 F st own I D) ⟨s1.t,((st++(l++[.dfr,F .busy none,own]))++ext)++new,[]⟩) ⟨qkq t (ps.toList.zip xs),((st++(l++[.dfr,F .ready none,own]))++ext)++[],[]⟩):
  qaf E (st.length+(n+1)) xs ((st++(l++[.dfr,F .ready none,own]))++ext) λb st2=>∃l' ext',(b=true->st2=(st++(l'++[.dfr,F .ready none,own]))++ext'∧I l')∧(b=false->∃c,st2=(st++(l'++[.dfr,F .done (some c),own]))++ext'∧D c l'):=by
 refine qqy hF (qdn hl) hps λrd=>?_;have h:=h rd;rw[Qy]at h;refine h.mono λe s1 hq=>?_
 cases e with
 |normal=>
  obtain⟨new,h1,h2,h3⟩:=hq;refine⟨by rw[h1,Qa];exact qdn hl,h2,?_⟩
  have e:s1.st.set (st.length+(n+1)) (F .busy none)=((st++(l++[.dfr,F .busy none,own]))++ext)++new:=by
   rw[h1,Qa,qfo hl,Qa _ ext]
  rw[e];refine h3.mono λe s2 bw=>?_
  cases e with
  |normal=>
   obtain⟨l',ext',new',k1,k2⟩:=bw
   exact⟨by rw[k1,Qa];exact qdn (hI _ k2),l',ext'++new',λ_=>⟨by rw[k1,Qa,qfo (hI _ k2)],k2⟩,nofun⟩
  |ret=>
   obtain⟨l',ext',new',k1,k2⟩:=bw
   exact⟨by rw[k1,Qa];exact qdn (hD _ _ k2),l',ext'++new',nofun,λ_=>⟨_,by rw[k1,Qa,qfo (hD _ _ k2)],k2⟩⟩
  |exit id=>
   obtain⟨l',ext',new',k1,k2⟩:=bw
   exact⟨by rw[k1,Qa];exact qdn (hD _ _ k2),l',ext'++new',nofun,λ_=>⟨_,by rw[k1,Qa,qfo (hD _ _ k2)],k2⟩⟩
  |_=>exact bw.elim
 |_=>exact hq.elim
end Go.Av
namespace Go.Pl
open Go Go.Proofs
abbrev Fld:=qa×qa
def qe4(s:qa):Prop:=∀c∈s,x6 c
instance (s:qa):Decidable (qe4 s):=inferInstanceAs (Decidable (∀c∈s,x6 c))
def xg(s:qa):qa:=if qe4 s∨s.head?=some 46 then 46::s else s
def vn(key p:qa):qa:=key++[58]++if p=[]then []else [32]++p
def ju(f:Fld):List qa:=vn f.1 ((zx f.2).headD [])::(zx f.2).tail.map λs=>[32]++xg s
def zp(ls:List qa):qa:=ls.flatMap λs=>s++[10]
def kp(xs:List Fld):qa:=xs.flatMap λf=>zp (ju f)
def v7(f:Fld):Int:=if¬qd3 f.1 then 5 else if 1000<f.2.length then 6 else 0
def kf(f:Fld):Prop:=qd3 f.1∧f.2.length<=1000
instance (f:Fld):Decidable (kf f):=inferInstanceAs (Decidable (_∧_))
theorem qc6(f:Fld):v7 f=0↔kf f:=by
 unfold v7 kf;by_cases h:qd3 f.1
 .by_cases h2:1000<f.2.length
  .simp[h,h2]
  .simp[h,h2];omega
 .simp[h]
def yq(c:UInt8)(l:qa):qa:=if l.head?=some c then l.drop 1 else l
theorem qvp(c:UInt8)(l:qa):Lib.trimPrefix l [c]=yq c l:=by
 unfold Lib.trimPrefix yq;rw[qnk];simp
def qa0(l:qa)(r:List qa):qa:=yq 32 (yv l)++r.flatMap λs=>[10]++yq 46 (s.drop 1)
def qr1(ls:List qa):Prop:=ls≠[]∧qy (ls.headD [])=4∧∀s∈ls.tail,qy s=3
instance (ls:List qa):Decidable (qr1 ls):=inferInstanceAs (Decidable (_∧_∧_))
def j8(ls:List qa):Fld×Int:=
 if qr1 ls then
  if 1000<(qa0 (ls.headD []) ls.tail).length then(([],[]),6)else((kg (ls.headD []),qa0 (ls.headD []) ls.tail),0)
 else(([],[]),2)
theorem qmx(l:qa):zx l≠[]:=by
 by_cases h:10∈l
 .rw[qbv h];simp
 .rw[qbw h];simp
theorem qtw(l:qa):zx l=(zx l).headD []::(zx l).tail:=by
 cases h:zx l with
 |nil=>exact absurd h (qmx l)
 |cons a r=>rfl
theorem qmy:∀(n:Nat)(l:qa),l.length<=n->(zx l).headD []++(zx l).tail.flatMap (λs=>[10]++s)=l
 |n,l,hn=>by
  by_cases h:10∈l
  .rw[qbv h]
   have d7:l≠[]:=λe=>by subst e;simp at h
   have e8:=yn (c:=10) d7
   cases n with
   |zero=>omega
   |succ n=>
    have ih:=qmy n (past 10 l) Om;simp only[Zp,Zu];rw[qtw (past 10 l)];simp only[Qs];rw[Qa,ih];have:=qar h;simp[<-this]
  .rw[qbw h];simp
theorem qf3(l:qa):∀x∈zx l,10∉x:=λx hx=>(qh6 l.length l (Qg _) x hx).2
theorem qqm(l:qa):∀x∈zx l,x.length<=l.length:=λx hx=>(qh6 l.length l (Qg _) x hx).1
theorem qq9(l:qa):(zx l).headD []∈zx l:=by
 have h:=qmx l
 cases e:zx l with
 |nil=>exact absurd e h
 |cons a r=>simp
theorem q21(s:qa):yq 46 (xg s)=s:=by
 unfold xg yq;by_cases h:qe4 s∨s.head?=some 46
 .rw[if_pos h];simp
 .rw[if_neg h,if_neg (λh'=>h (.inr h'))]
theorem qvk(s:qa):¬qe4 (xg s):=by
 unfold xg;by_cases h:qe4 s∨s.head?=some 46
 .rw[if_pos h]
  intro h';have:=h' 46 Sx;revert this;decide
 .rw[if_neg h]
  exactλh'=>h (.inl h')
theorem qud{s:qa}(h:10∉s):10∉xg s:=by
 unfold xg;split
 .simp[h]
 .exact h
theorem qw7(s:qa):(xg s).length<=s.length+1:=by
 unfold xg;split <;>simp
theorem qwk(s:qa)(h:10∉s):qy ([32]++xg s)=3:=by
 have hn:=qud h;have hb:=qvk s;unfold qy;have p7:10∉([32]++xg s):=by simp[hn]
 rw[if_neg p7,if_neg (λh'=>hb λc hc=>h' c (by simp[hc])),if_neg Sx,if_pos ⟨32,Sx,.inl rfl⟩]
theorem qk1{k r:qa}(h:58∉k):kg (k++[58]++r)=k:=by
 unfold kg
 induction k with
 |nil=>simp
 |cons a k ih=>
  simp only[Qq,not_or]at h;have:(58:UInt8)≠a:=h.1;simp only[Xi,Zx];rw[if_pos (by simpa usingλe=>this e.symm)];rw[ih h.2]
theorem q01{k r:qa}(h:58∉k):yv (k++[58]++r)=r:=by
 unfold yv;rw[qk1 h];rw[Zh Sx];simp
theorem qkl{k:qa}(h:qd3 k):∃c,k.head?=some c∧¬x6 c∧c≠35:=by
 obtain⟨h1,h2,h3,h4,h5,h6⟩:=h
 cases k with
 |nil=>exact absurd rfl h1
 |cons a r=>exact⟨a,rfl,λhb=>h3 ⟨a,rfl,hb⟩,λe=>h4 (by simp[e])⟩
theorem qwj{k p:qa}(h:qd3 k)(hp:10∉p):qy (vn k p)=4:=by
 obtain⟨c,hc,hb,h35⟩:=qkl h;have hk10:10∉k:=h.2.2.2.2.2;have hk58:58∉k:=h.2.2.2.2.1
 have hh:(vn k p).head?=some c:=by
  unfold vn
  cases k with
  |nil=>simp at hc
  |cons a r=>simpa using hc
 have e:vn k p=k++[58]++(if p=[]then []else [32]++p):=rfl
 have p7:10∉vn k p:=by
  rw[e];split <;>simp[hk10,hp]
 have dq:c∈vn k p:=Xd hh;unfold qy;rw[if_neg p7,if_neg (λh'=>hb (h' c dq)),if_neg (by rw[hh];simpa using h35),if_neg (λ⟨d,hd,cn⟩=>by rw[hh]at hd;cases hd;exact hb cn)];rw[if_pos];refine⟨by rw[e];simp,?_⟩;rw[e,qk1 hk58];exact h
theorem q8q(k p:qa)(h:58∉k):yq 32 (yv (vn k p))=p:=by
 unfold vn;rw[q01 h];by_cases hp:p=[]
 .rw[if_pos hp];simp[yq,hp]
 .rw[if_neg hp];simp[yq]
theorem qxr{f:Fld}(h:kf f):j8 (ju f)=(f,0):=by
 obtain⟨hk,hv⟩:=h;have hk58:58∉f.1:=hk.2.2.2.2.1;have p7:=qf3 f.2
 have nt:qa0 (vn f.1 ((zx f.2).headD [])) ((zx f.2).tail.map λs=>[32]++xg s)=f.2:=by
  unfold qa0;rw[q8q _ _ hk58]
  have:((zx f.2).tail.map λs=>[32]++xg s).flatMap (λs=>[10]++yq 46 (s.drop 1))=(zx f.2).tail.flatMap (λs=>[10]++s):=by
   rw[List.flatMap_map];congr 1;funext s;simp[q21]
  rw[this,qmy _ _ (Qg _)]
 unfold j8 ju;rw[if_pos]
 .simp only[Zp,Zu]
  refine(if_neg (by rw[nt];omega)).trans ?_;have:kg (vn f.1 ((zx f.2).headD []))=f.1:=qk1 hk58;rw[this,nt]
 .refine⟨Sx,?_,?_⟩
  .simp only[Zp]
   exact qwj hk (p7 _ (qq9 _))
  .intro s hs
   simp only[Zu,Zz]at hs;obtain⟨x,hx,rfl⟩:=hs;exact qwk x (p7 x (List.mem_of_mem_tail hx))
end Go.Pl
namespace Go.Av
open Go Go.RowKit
section
variable {E : Env} {rd : Option Nat} {N : Nat} {ops : Array Oper} {K : AS → Prop} {s : AS} {rest : List Oper} {d : Option Tmp} {T : TypeId} {p : String} {af : Array Edge}
theorem qaw{t e:TypeId}{len sz:Nat}{agg:Bool}{parts:Array (Nat×Operand)}{zs cs:List AV}{st loc:List AObj}(d9:s.st=st++loc)(hu:E.P.underlying t=some (.slice e))(ht:tyOf E.P e=some (sz,agg))(hz:qes E.P e len=some zs)
  (hf:qcp (λi=>some (i*sz,sz)) zs (vk N s parts)=some cs) (o9:Xc (len*sz) 16777216=true)
  (h:AOps E rd N ops rest K (AS.put ⟨s.t,st++(loc++[.cells 0 e cs]),s.df⟩ d (.os (st.length+loc.length) 0 0 len len))):AOps E rd N ops (⟨d,.buildSlice t len parts,T,p,af,none⟩::rest) K s:=by
 refine qv rfl (qu nofun λB0 w0 G a w _ hI=>?_);obtain⟨c',a8,h2⟩:=qlb (d:=d) (T:=T) (p:=p) (af:=af) hI hu ht hz hf o9;have hA:=hI.agree.newCells e c' cs h2.1 h2.2;have hn:=hI.agree.n;rw[d9]at hA hn;simp only[Qa,Qb]at hA hn;exact⟨_,_,_,_,_,a8,G.le_new _ _ _ _,hA,.os _ _ _ _ _ _ (by simp[Gh.new,hn]) (Xf _) (λ_=>by simp[Gh.new,hn]),h⟩
theorem zb.ownTip{B0:Nat}{w0:World}{G:Gh}{st:List AObj}{w:World}(h:zb B0 w0 G st w){o sz len cap:Nat}{T:TypeId}{cs:List AV}{xs:List AV}(ho:st[o]?=some (.cells 0 T cs))(hc:cs.length=cap*sz)(b9:xs.length=len)(h0:0<len)(d8:len<=cap)(tn:cap<=maxLen)(hw:∀x∈xs,x.cells.length=sz)(r6:flat xs=cs.take (len*sz)):
  ∃G',G.le G'∧zb B0 w0 G' (st.set o (.tip len sz T)) w∧Rel G' (.sl sz xs (some o)) (.slice (some ⟨(G.ob o).blk,0,none⟩) len cap):=by
 subst b9;have pm:=lt_of_getElem? ho;obtain⟨g0,g1,g2,g3,c,g4,g5,g6⟩:=h.ob o _ ho;have bc:G.le (G.publish (G.ob o).blk (c.toList.take (xs.length*sz))):=G.le_publish _ _ [] [] (.inl g3)
 -- dead, published
 have key:∀(k:Nat)(x:AObj),(st.set o .dead)[k]?=some x->x=.dead∨(k≠o∧st[k]?=some x):=λk x hx=>by
  rcases getElem?_set' _ _ _ _ _ hx with⟨_,e⟩|e
  .exact .inl e
  .exact .inr e
 have gq:zb B0 w0 (G.publish (G.ob o).blk (c.toList.take (xs.length*sz))) (st.set o .dead) w:=by
  refine⟨h.below,h.hB,by simp[h.n,Gh.publish],λb vs hb=>?_,λk x hx=>?_,λk k' x x' d7 hx g9 hl bq=>?_⟩
  .simp only[Gh.publish]at hb
   by_cases e:b=(G.ob o).blk
   .rw[if_pos e]at hb
    cases hb
    subst e;refine⟨c,T,(0,0),g4,λi y hy=>?_⟩;rw[Qr]at hy;split at hy
    .simpa using hy
    .simp at hy
   .rw[if_neg e]at hb
    exact h.pub b vs hb
  .rcases key k x hx with rfl |⟨hk,hx⟩
   .trivial
   .refine(h.ob k x hx).mono bc rfl (λhl=>?_) (λ_=>rfl)
    have:=h.sep k o x _ hk hx ho hl trivial;simp[Gh.publish,this]
  .rcases key k x hx with rfl |⟨hk,hx⟩
   .exact hl.elim
   .rcases key k' x' g9 with rfl |⟨bn,g9⟩
    .exact bq.elim
    .exact h.sep k k' x x' d7 hx g9 hl bq
 have hvl:(c.toList.take (xs.length*sz)).length=xs.length*sz:=by
  have:xs.length*sz<=cap*sz:=Qj _ d8;simp;omega
 obtain⟨br,mq⟩:=gq.setTip (t:=o) (n:=0) (n':=xs.length) (k:=(G.ob o).blk) (cap:=c.size) (sz:=sz) (T:=T) (c:=c) (vs:=c.toList.take (xs.length*sz)) (by simp[pm]) g0 g1 h0 g4 (by simp[Gh.publish]) hvl rfl g2 (λk x hx hl=>by
  rcases key k x hx with rfl |⟨hk,hx⟩
  .exact hl.elim
  .exact h.sep k o x _ hk hx ho hl trivial)
 rw[Xr]at mq;refine⟨_,bc.trans br,mq,?_⟩;have hgn:o<G.n:=by rw[h.n];exact pm
 refine .sl sz xs (some o) (G.ob o).blk 0 cap (c.toList.take (xs.length*sz)) (by simp[Gh.setOb,Gh.publish]) hw (by rw[r6,hvl];simp;omega) (λi x y h1 h2=>?_) (λt ht=>?_) Om
 .rw[r6]at h1
  rw[Qz]at h2;rw[Qr]at h1 h2;split at h1
  .rename_i hi
   rw[if_pos hi]at h2;exact((g6 i x y h1 (by simpa using h2)).mono bc).mono br
  .simp at h1
 .simp only[Zb]at ht
  subst ht;refine⟨by simpa[Gh.setOb,Gh.publish]using hgn,Om,by simp[Gh.setOb],λ_=>⟨by simp[Gh.setOb],rfl,by simp[Gh.setOb,<-g5,hc],tn,Om⟩⟩
theorem Inv.osTip{B0:Nat}{w0:World}{G:Gh}{a:Act}{w:World}(h:Inv B0 w0 N G s a w){i o sz len cap:Nat}{T':TypeId}{cs xs:List AV}(hi:s.t i=.os o 0 0 len cap)(ho:s.st[o]?=some (.cells 0 T' cs))(hc:cs.length=cap*sz)(b9:xs.length=len)(h0:0<len)(d8:len<=cap)(tn:cap<=maxLen)(hw:∀x∈xs,x.cells.length=sz)(r6:flat xs=cs.take (len*sz)):
  ∃G',G.le G'∧Inv B0 w0 N G' ⟨Av.put s.t i (.sl sz xs (some o)),s.st.set o (.tip len sz T'),s.df⟩ a w:=by
 obtain⟨G',hG,hA,hR⟩:=h.agree.ownTip ho hc b9 h0 d8 tn hw r6;obtain⟨_,g1,_⟩:=h.agree.ob o _ ho;refine⟨G',hG,hA,h.defers_mono hG,h.size,λj y hy=>?_⟩;have hj:=h.tmps j y hy;by_cases e:j=i
 .subst e
  simp only[xh];rw[hi]at hj
  cases hj with
  |os _ _ _ _ b _ hn hv hb=>
   have hb:=hb g1;subst hb;exact hR
 .simp only
  rw[qai _ _ _ _ e];exact hj.mono hG
theorem q7h{c:Code}{Q:Exit->AS->Prop}(i:Nat){o sz len cap:Nat}{T':TypeId}{cs xs:List AV}(hi:s.t i=.os o 0 0 len cap)(ho:s.st[o]?=some (.cells 0 T' cs))(hc:cs.length=cap*sz)(b9:xs.length=len)(h0:0<len)(d8:len<=cap)(tn:cap<=maxLen)(hw:∀x∈xs,x.cells.length=sz)(r6:flat xs=cs.take (len*sz))
  (h:AWp E rd N c Q ⟨Av.put s.t i (.sl sz xs (some o)),s.st.set o (.tip len sz T'),s.df⟩):AWp E rd N c Q s:=
 ⟨λB0 w0 G a w hL hI=>let ⟨G1,h1,h2⟩:=hI.osTip hi ho hc b9 h0 d8 tn hw r6;wpIn_mono (h.run B0 w0 _ a w hL h2) λ_ _ _ ⟨G',s',hG,k1,k2⟩=>⟨G',s',h1.trans hG,k1,k2⟩⟩
theorem q4s{l:List Oper}(i:Nat){o sz len cap:Nat}{T':TypeId}{cs xs:List AV}(hi:s.t i=.os o 0 0 len cap)(ho:s.st[o]?=some (.cells 0 T' cs))(hc:cs.length=cap*sz)(b9:xs.length=len)(h0:0<len)(d8:len<=cap)(tn:cap<=maxLen)(hw:∀x∈xs,x.cells.length=sz)(r6:flat xs=cs.take (len*sz))
  (h:AOps E rd N ops l K ⟨Av.put s.t i (.sl sz xs (some o)),s.st.set o (.tip len sz T'),s.df⟩):AOps E rd N ops l K s:=
 ⟨λB0 w0 G a w hL hI Q hQ=>let ⟨G1,h1,h2⟩:=hI.osTip hi ho hc b9 h0 d8 tn hw r6;h.run B0 w0 _ a w hL h2 Q λG' s' a' w' hG k1 k2=>hQ G' s' a' w' (h1.trans hG) k1 k2⟩
theorem Inv.osPub{B0:Nat}{w0:World}{G:Gh}{a:Act}{w:World}(h:Inv B0 w0 N G s a w){i o ver off sz len cap:Nat}{T':TypeId}{cs xs:List AV}(hi:s.t i=.os o ver off len cap)(ho:s.st[o]?=some (.cells ver T' cs))(b9:xs.length=len)(d8:len<=cap)(hw:∀x∈xs,x.cells.length=sz)(lg:off+len*sz<=cs.length)(r6:flat xs=(cs.drop off).take (len*sz)):
  ∃G',G.le G'∧Inv B0 w0 N G' ⟨Av.put s.t i (.sl sz xs none),s.st.set o .dead,s.df⟩ a w:=by
 obtain⟨vs,bc,hA,hv,hp,hl,hr⟩:=h.agree.pubOb ho;refine⟨_,bc,hA,h.defers_mono bc,h.size,λj y hy=>?_⟩;have hj:=h.tmps j y hy;by_cases e:j=i
 .subst e
  simp only[xh];rw[hi]at hj
  cases hj with
  |os _ _ _ _ b _ hn dx hb=>
   have hb:=hb hv;subst hb;rw[<-b9];refine .sl sz xs none _ off cap vs hp hw (by rw[r6];simp;omega) (λk x y hx hy=>?_) (λt ht=>by simp at ht) Om;rw[r6,Qr]at hx;split at hx
   .rw[Za]at hx
    exact hr _ x y hx hy
   .simp at hx
 .simp only
  rw[qai _ _ _ _ e];exact hj.mono bc
theorem q65{l:List Oper}(i:Nat){x r:AV}(hi:s.t i=x)(hw:∀G v,Rel G x v->Rel G r v)(h:AOps E rd N ops l K ⟨Av.put s.t i r,s.st,s.df⟩):AOps E rd N ops l K s:=
 ⟨λB0 w0 G a w hL hI Q hQ=>h.run B0 w0 G a w hL ⟨hI.agree,hI.defers,hI.size,λj y hy=>by
  have hj:=hI.tmps j y hy;by_cases e:j=i
  .subst e;simp only[xh];rw[hi]at hj;exact hw G y hj
  .simp only;rw[qai _ _ _ _ e];exact hj⟩ Q hQ⟩
theorem qt8{P:Program}{t e:TypeId}{sz:Nat}{agg:Bool}(hu:P.underlying t=some (.slice e))(ht:tyOf P e=some (sz,agg))(a:Option Addr)(len cap:Nat)(lo hi:Option Value)(i j:Nat)(w:World)
  (cz:match lo with|none=>i=0|some v=>∃k,v=.int k (i:Int)) (cg:match hi with|none=>j=len|some v=>(∃k,v=.int k (j:Int))∧j<=cap) (h1:i<=j):
  (Instr.slice t (.slice a len cap) lo hi none).run P w=.ok (.slice (if cap=i then a else a.map (·.add (i*sz))) (j-i) (cap-i)) w:=by
 have hs:=(vj ht w).1
 cases lo with
 |none=>
  simp only at cz;subst cz
  cases hi with
  |none=>
   simp only at cg;subst cg
   simp[Instr.slice,run_underlying hu,Instr.sliceBounds,hs]
  |some v=>
   obtain⟨⟨k,rfl⟩,h2⟩:=cg
   simp[Instr.slice,run_underlying hu,Instr.sliceBounds,Instr.sliceBound,asIntOf,hs,h2]
 |some u=>
  obtain⟨k',rfl⟩:=cz
  cases hi with
  |none=>
   simp only at cg;subst cg
   simp[Instr.slice,run_underlying hu,Instr.sliceBounds,Instr.sliceBound,asIntOf,hs,h1]
  |some v=>
   obtain⟨⟨k,rfl⟩,h2⟩:=cg;simp[Instr.slice,run_underlying hu,Instr.sliceBounds,Instr.sliceBound,asIntOf,hs,h1,h2]
theorem qt4{G:Gh}{sz:Nat}{xs:List AV}{tip:Option Nat}{a:Option Addr}{len cap:Nat}(h:Rel G (.sl sz xs tip) (.slice a len cap)){i j:Nat}(h1:i<=j)(h2:j<=xs.length):
  len=xs.length∧len<=cap∧Rel G (.sl sz ((xs.take j).drop i) none) (.slice (if cap=i then a else a.map (·.add (i*sz))) (j-i) (cap-i)):=by
 cases h with
 |sl0=>
  simp at h2;subst h2;have:i=0:=Om
  subst this;refine⟨rfl,Xf _,?_⟩;simp
  exact .sl0 sz none _ _ Sx
 |sl _ _ _ b off cap pub hp hw b9 hr ht s4=>
  refine⟨rfl,s4,?_⟩;have hl:((xs.take j).drop i).length=j-i:=So
  by_cases fg:j=i
  .subst fg
   have e:(xs.take j).drop j=[]:=Qm.1 (by rw[hl];omega);rw[e,Nat.sub_self];exact .sl0 sz none _ _ Sx
  .have d7:cap≠i:=by omega
   rw[if_neg d7];simp only[Option.map_some];have lw:Addr.add ⟨b,off,none⟩ (i*sz)=⟨b,off+i*sz,none⟩:=Addr.add_lit ..;rw[lw,<-hl];have bp:∀x∈(xs.take j).drop i,x.cells.length=sz:=λx hx=>hw x (Zw (List.mem_of_mem_drop hx));have nz:(flat xs).length=xs.length*sz:=jh hw
   have cw:flat xs=flat (xs.take i)++flat ((xs.take j).drop i)++flat (xs.drop j):=by
    have e:xs.take i++(xs.take j).drop i=xs.take j:=by
     conv=>rhs;rw[<-Ze i (xs.take j),List.take_take,Zq h1]
    rw[<-xn,<-xn,e,Ze]
   have hti:(flat (xs.take i)).length=i*sz:=by
    rw[jh (λx hx=>hw x (Zw hx)),List.length_take,Zq Om]
   have hmid:(flat ((xs.take j).drop i)).length=(j-i)*sz:=by rw[jh bp,hl]
   refine .sl sz _ none b (off+i*sz) (cap-i) pub hp bp ?_ (λk x y hx hy=>?_) (λt ht=>by simp at ht) (by rw[hl];omega)
   .have:=congrArg Xe cw
    simp only[Qb]at this;omega
   .refine hr (i*sz+k) x y ?_ (by rw[<-hy];congr 1;omega)
    have hk:=lt_of_getElem? hx;rw[cw,Qa,Qf Om,hti,Ql,Qc hk];exact hx
theorem q1x{x:Operand}{t e:TypeId}{lo hi:Option Operand}{sz:Nat}{agg:Bool}{xs ys:List AV}{tip:Option Nat}{i j:Nat}(hx:qg N s x=.sl sz xs tip)(hu:E.P.underlying t=some (.slice e))(ht:tyOf E.P e=some (sz,agg))
  (cz:match lo with|none=>i=0|some y=>∃k,qg N s y=.v (.int k (i:Int))) (cg:match hi with|none=>j=xs.length|some y=>∃k,qg N s y=.v (.int k (j:Int))) (h1:i<=j) (h2:j<=xs.length) (hy:(xs.take j).drop i=ys)
  (h:AOps E rd N ops rest K (s.put d (.sl sz ys none))):AOps E rd N ops (⟨d,.slice t x lo hi none,T,p,af,none⟩::rest) K s:=by
 subst hy;refine qv rfl (qu nofun λB0 w0 G a w _ hI=>?_);have he:=hI.eval_of hx;generalize hv:a.eval x=v at he;have px:∃b len cap,v=.slice b len cap:=by cases he<;>exact⟨_,_,_,rfl⟩
 obtain⟨b,len,cap,rfl⟩:=px;obtain⟨hl,hlc,hr⟩:=qt4 he h1 h2;refine⟨_,w,G,_,s.st,?_,.refl G,hI.agree,hr,h⟩
 have a8:=qt8 hu ht b len cap (lo.map a.eval) (hi.map a.eval) i j w (by
  cases lo with
  |none=>exact cz
  |some y=>obtain⟨k,hy⟩:=cz;exact⟨k,hI.evalv hy⟩) (by
  cases hi with
  |none=>simp only at cg;simp only[Option.map_none];omega
  |some y=>obtain⟨k,hy⟩:=cg;exact⟨⟨k,hI.evalv hy⟩,Om⟩) h1
 generalize a.eval=ρ at hv a8;simp only[execOp,hv];simp[Instr.sliceAt,run_underlying hu,a8]
theorem qgc{x y:Operand}{t e:TypeId}{sz:Nat}{agg:Bool}{xs ys:List AV}{tip:Option Nat}{k:IntKind}{i:Nat}(hx:qg N s x=.sl sz xs tip)(hy:qg N s y=.v (.int k (i:Int)))(hu:E.P.underlying t=some (.slice e))(ht:tyOf E.P e=some (sz,agg))(h1:i<=xs.length)(hz:xs.drop i=ys)
  (h:AOps E rd N ops rest K (s.put d (.sl sz ys none))):AOps E rd N ops (⟨d,.slice t x (some y) none none,T,p,af,none⟩::rest) K s:=
 q1x (i:=i) (j:=xs.length) hx hu ht ⟨k,hy⟩ rfl h1 (Qg _) (by rw[List.take_length];exact hz) h
end
end Go.Av
namespace Go.Av
open Go Go.RowKit
inductive Vec (sz:Nat) (T:TypeId) (o:Nat) (xs:List AV):AV->AObj->Prop
 |nil (h:xs=[]):Vec sz T o xs zf (.tip 0 sz T)
 |os (ver cap:Nat) (pad:List AV) (hl:(flat xs++pad).length=cap*sz) (hw:∀x∈xs,x.cells.length=sz) (d8:xs.length<=cap) (tn:cap<=maxLen):Vec sz T o xs (.os o ver 0 xs.length cap) (.cells ver T (flat xs++pad))
section
variable {B0 : Nat} {w0 : World} {G : Gh} {st : List AObj} {w : World}
theorem zb.setCells(h:zb B0 w0 G st w){t k cap v':Nat}{T:TypeId}{cs:List AV}(ht:st[t]?=some .dead)(hraw:(G.ob t).raw=false)(dk:(G.ob t).ver<v')
  {c:Array Value} (hc:w.heap[k]?=some (.cells c T (0,0))) (hp:G.pub k=none) (hl:cs.length=c.size) (hr:∀(i:Nat)(x:AV)(y:Value),cs[i]?=some x->c[i]?=some y->Rel G x y) (hk:B0<=k) (hs:∀o x,st[o]?=some x->x.live->(G.ob o).blk≠k):
  G.le (G.setOb t ⟨v',k,cap,false⟩)∧zb B0 w0 (G.setOb t ⟨v',k,cap,false⟩) (st.set t (.cells v' T cs)) w:=by
 have d8:=G.le_setOb t ⟨v',k,cap,false⟩ dk hraw;have fj:∀o,o≠t->(G.setOb t ⟨v',k,cap,false⟩).ob o=G.ob o:=λo ho=>by simp[Gh.setOb,ho]
 have dj:(G.setOb t ⟨v',k,cap,false⟩).ob t=⟨v',k,cap,false⟩:=by simp[Gh.setOb]
 refine⟨d8,h.below,h.hB,by simp[h.n,Gh.setOb],h.pub,λo x hx=>?_,λo o' x x' d7 hx g9 dp lk=>?_⟩
 .rcases getElem?_set' _ _ _ _ _ hx with⟨rfl,rfl⟩|⟨ho,hx⟩
  .exact⟨by rw[dj],by rw[dj],by rw[dj];exact hk,by rw[dj];exact hp,c,by rw[dj];exact hc,hl,λi x y h1 h2=>(hr i x y h1 h2).mono d8⟩
  .exact(h.ob o x hx).mono d8 (fj o ho) (λ_=>rfl) (λ_=>rfl)
 .rcases getElem?_set' _ _ _ _ _ hx with⟨e1,e2⟩|⟨ho,hx⟩
  .rcases getElem?_set' _ _ _ _ _ g9 with⟨e3,_⟩|⟨e7,g9⟩
   .exact absurd (e1.trans e3.symm) d7
   .rw[e1,dj,fj o' e7]
    exact(hs o' x' g9 lk).symm
  .rcases getElem?_set' _ _ _ _ _ g9 with⟨e3,_⟩|⟨e7,g9⟩
   .rw[e3,dj,fj o ho]
    exact hs o x hx dp
   .rw[fj o ho,fj o' e7]
    exact h.sep o o' x x' d7 hx g9 dp lk
theorem qaq{G:Gh}{cs ds:List AV}{vs us:List Value}(hl:cs.length=vs.length)(h1:∀(i:Nat)(x:AV)(y:Value),cs[i]?=some x->vs[i]?=some y->Rel G x y)(h2:∀(i:Nat)(x:AV)(y:Value),ds[i]?=some x->us[i]?=some y->Rel G x y):
  ∀(i:Nat)(x:AV)(y:Value),(cs++ds)[i]?=some x->(vs++us)[i]?=some y->Rel G x y:=λi x y hx hy=>by
 by_cases hi:i<cs.length
 .rw[Qc hi]at hx
  rw[Qc Om]at hy;exact h1 i x y hx hy
 .rw[Qf Om]at hx
  rw[Qf Om,<-hl]at hy;exact h2 _ x y hx hy
theorem qxf{P:Program}(hA:zb B0 w0 G st w){tt u ty T:TypeId}{du:TypeDesc}(htt:P.underlying tt=some (.slice T))(hu:P.underlying u=some du)(hd:qi3 du)
  {sz bytes:Nat} (hT:yr P T sz bytes) {o:Nat} {xs ys:List AV} {a:AV} {ob:AObj} {v x:Value} (hV:Vec sz T o xs a ob) (ho:st[o]?=some ob) (hv:Rel G a v)
  {news:List Value} (hx:Src P w x ys.length sz news) (hys:∀y∈ys,y.cells.length=sz) (m8:∀(i:Nat)(a:AV)(b:Value),(flat ys)[i]?=some a->news[i]?=some b->Rel G a b)
  (cj:xs.length+ys.length<=maxLen) (lz:(xs.length+ys.length)*bytes<=140737488355328):
  ∃v' w' G' a' ob',(Builtin.append_ #[tt,u] ty #[v,x]).run P w=.ok v' w'∧G.le G'∧zb B0 w0 G' (st.set o ob') w'∧Rel G' a' v'∧Vec sz T o (xs++ys) a' ob':=by
 obtain⟨i,z,hi,hz,rfl,rfl,pf⟩:=hT.ex;have pm:=lt_of_getElem? ho;have htn:o<G.n:=by rw[hA.n];exact pm
 have hraw:(G.ob o).raw=false:=by
  have:=hA.ob o _ ho
  cases hV with
  |nil h=>exact this.1
  |os=>exact this.1
 have hk:=hA.kill o;have rm:(st.set o .dead)[o]?=some .dead:=yz ho
 have p9:∀k x,(st.set o .dead)[k]?=some x->x.live->k≠o∧st[k]?=some x:=λk x hx hl=>by
  rcases getElem?_set' _ _ _ _ _ hx with⟨_,e⟩|⟨h1,h2⟩
  .subst e;exact hl.elim
  .exact⟨h1,h2⟩
 have t7:st.set o ob=st:=by
  apply Zi;intro k;by_cases e:o=k
  .subst e;rw[List.getElem?_set_self pm];exact ho.symm
  .rw[Qp e]
 have hfy:(flat ys).length=ys.length*i.size:=jh hys
 have grow:∀(base:Option Addr)(c:Nat)(olds:List Value),(Builtin.firstCells i.size xs.length (.slice base xs.length c)).run P w.drew=.ok olds.toArray w.drew->c<xs.length+ys.length->olds.length=xs.length*i.size->(∀x∈xs,x.cells.length=i.size)->
   (∀(j:Nat)(a:AV)(b:Value),(flat xs)[j]?=some a->olds[j]?=some b->Rel G a b)->Builtin.nextslicecap (xs.length+ys.length) c*i.bytes<=281474976710656->
   ∃v' w' G' a' ob',(Builtin.append_ #[tt,u] ty #[.slice base xs.length c,x]).run P w=.ok v' w'∧G.le G'∧zb B0 w0 G' (st.set o ob') w'∧Rel G' a' v'∧Vec i.size T o (xs++ys) a' ob':=by
  intro base c olds e9 hc sj hwx hrx o7;have nz:(flat xs).length=xs.length*i.size:=jh hwx;have a8:=qf8 (ty:=ty) htt hu hd hi hz hx base xs.length c olds e9 hc (by simp only[maxLen]at cj;omega) o7;have mz:=grownCap_ge w (xs.length+ys.length) c T;have d8:=grownCap_le_maxLen w (xs.length+ys.length) c T cj;generalize grownCap w (xs.length+ys.length) c T=cap at a8 mz d8;generalize hzc:(Builtin.zeroCells z.cells (cap-(xs.length+ys.length)))=zc at a8;have hzl:zc.size=(cap-(xs.length+ys.length))*i.size:=by rw[<-hzc,size_zeroCells,pf]
  have cq:Below w.heap.size w w.drew:=⟨rfl,rfl,rfl,Qg _,λ_ _=>rfl⟩
  have pg:(flat (xs++ys)++zc.toList.map AV.v).length=(olds.toArray++news.toArray++zc).size:=by
   rw[xn];simp[nz,hfy,sj,hx.count];omega
  have gq:=(hk.fresh cq).fresh (w':=w.drew.alloc (.cells (olds.toArray++news.toArray++zc) T)) ⟨rfl,rfl,rfl,by simp[World.alloc],λb hb=>yu _ _ _ hb⟩
  have hnp:G.pub w.heap.size=none:=by
   cases hp:G.pub w.heap.size with
   |none=>rfl
   |some vs=>exact absurd (hA.pub_lt hp) (Nat.lt_irrefl _)
  obtain⟨br,mq⟩:=gq.setCells (t:=o) (k:=w.heap.size) (cap:=0) (v':=(G.ob o).ver+1) (T:=T) (cs:=flat (xs++ys)++zc.toList.map AV.v) rm hraw (Nat.lt_succ_self _) (ww w.drew _) hnp pg (by
   have h1:=qaq (G:=G) (cs:=flat xs) (ds:=flat ys) (vs:=olds) (us:=news) Om hrx m8
   have h2:=qaq (G:=G) (cs:=flat xs++flat ys) (ds:=zc.toList.map AV.v) (vs:=olds++news) (us:=zc.toList) (by simp[nz,hfy,sj,hx.count]) h1 (λj a b h1 h2=>by
    rw[Qo,h2]at h1;simp at h1;subst h1
    exact .v _)
   rw[xn];intro j a b g1 g2
   exact h2 j a b g1 (by rw[<-g2];simp[<-Zv])) hA.hB (λk x hx hl=>by
   obtain⟨_,g9⟩:=p9 k x hx hl
   exact Nat.ne_of_lt ((hA.ob k x g9).lt hl))
  rw[Xr]at mq;refine⟨_,_,_,_,_,a8,br,mq,.os o ((G.ob o).ver+1) 0 (xs.length+ys.length) w.heap.size cap (by simpa[Gh.setOb]using htn) (by simp[Gh.setOb]) (λ_=>by simp[Gh.setOb]),?_⟩
  have:=Vec.os (o:=o) (T:=T) (xs:=xs++ys) ((G.ob o).ver+1) cap (zc.toList.map AV.v) (sz:=i.size) (by
   have h1:zc.toList.length=(cap-(xs.length+ys.length))*i.size:=by rw[<-hzl];simp
   rw[Qb,xn,Qb,nz,hfy,Qn,h1,<-Zs,<-Zs];congr 1
   omega) (λy hy=>by
   rcases Qx.1 hy with h|h
   .exact hwx y h
   .exact hys y h) (by simpa using mz) d8
  rw[Qb]at this;exact this
 cases hV with
 |nil h=>
  subst h
  cases hv with
  |v _=>
  by_cases dv:ys.length=0
  .have hy0:ys=[]:=Qk dv
   subst hy0;have sg:news=[]:=Qk (by simpa using hx.count);subst sg;exact⟨_,_,G,_,_,qca htt hu hd hi hx none 0 0 (Qg _),.refl G,by rw[t7];exact hA,.v _,.nil Sx⟩
  .exact grow none 0 [] (by simp[run_firstCells_none]) So Sx Sx (by simp[flat]) (by
    simp only[Qi,Qz]at lz⊢;rw[nextslicecap_zero Om]
    omega)
 |os ver cap pad hl hw d8 tn=>
  obtain⟨g0,g1,g2,g3,c,g4,g5,g6⟩:=hA.ob o _ ho;have nz:(flat xs).length=xs.length*i.size:=jh hw
  cases hv with
  |os _ _ _ _ b _ hn dx hb=>
  have hb:=hb g1;subst hb;have hcs:c.size=cap*i.size:=by rw[<-g5,hl]
  by_cases dv:ys.length=0
  .have hy0:ys=[]:=Qk dv
   subst hy0;have sg:news=[]:=Qk (by simpa using hx.count);subst sg;exact⟨_,_,G,_,_,qca htt hu hd hi hx _ xs.length cap d8,.refl G,by rw[t7];exact hA,.os _ _ _ _ _ _ hn dx (λ_=>rfl),by rw[Qy];exact .os ver cap pad hl hw d8 tn⟩
  .by_cases i9:xs.length+ys.length<=cap
   .have hmul:(xs.length+ys.length)*i.size<=cap*i.size:=Qj _ i9
    rw[Zs]at hmul;have o7:xs.length*i.size+news.length<=c.size:=by rw[hx.count,hcs];omega
    have a8:=qjt (ty:=ty) htt hu hd hi hx (G.ob o).blk xs.length cap c g4 i9 o7
    have gm:pad.length=cap*i.size-xs.length*i.size:=by
     have:=hl;rw[Qb,nz]at this;omega
    have mq:=hA.setRow (cs':=flat (xs++ys)++pad.drop (ys.length*i.size)) (c':=(c.toList.take (xs.length*i.size)++news++c.toList.drop (xs.length*i.size+news.length)).toArray) ho (by
     rw[xn];simp[nz,hfy,hx.count,gm,hcs,Zq d8]
     omega) (by
     have e1:∀(j:Nat)(a:AV)(b:Value),(flat xs)[j]?=some a->(c.toList.take (xs.length*i.size))[j]?=some b->Rel G a b:=λj a b h1 h2=>by
      have hj:=lt_of_getElem? h1;rw[Zo Om]at h2;exact g6 j a b (by rw[Qc hj];exact h1) (by simpa using h2)
     have e2:=qaq (G:=G) (cs:=flat xs) (ds:=flat ys) (vs:=c.toList.take (xs.length*i.size)) (us:=news) So e1 m8
     have e3:=qaq (G:=G) (cs:=flat xs++flat ys) (ds:=pad.drop (ys.length*i.size)) (vs:=c.toList.take (xs.length*i.size)++news) (us:=c.toList.drop (xs.length*i.size+news.length)) (by
      simp[nz,hfy,hx.count]
      omega) e2 (λj a b h1 h2=>by
      rw[Za]at h1 h2;refine g6 (xs.length*i.size+news.length+j) a b ?_ (by simpa using h2);rw[Qf (by rw[nz];omega),nz,<-h1,hx.count];congr 1
      omega)
     rw[xn];intro j a b h1 h2
     exact e3 j a b h1 (by simpa using h2))
    refine⟨_,_,G,_,_,a8,.refl G,mq,.os o ver 0 (xs.length+ys.length) _ cap hn dx (λ_=>rfl),?_⟩
    have:=Vec.os (o:=o) (T:=T) (xs:=xs++ys) ver cap (pad.drop (ys.length*i.size)) (sz:=i.size) (by
     rw[Qb,xn,Qb,nz,hfy,List.length_drop,gm]
     omega) (λy hy=>by
     rcases Qx.1 hy with h|h
     .exact hw y h
     .exact hys y h) (by simpa using i9) tn
    rw[Qb]at this;exact this
   .refine grow (some ⟨(G.ob o).blk,0,none⟩) cap (c.toList.take (xs.length*i.size)) ?_ Om (by
     have:xs.length*i.size<=cap*i.size:=Qj _ d8;simp
     omega) hw (λj a b h1 h2=>?_) (growslice_fits Om lz)
    .refine run_firstCells_some w.drew i.size xs.length ⟨(G.ob o).blk,0,none⟩ xs.length cap _ (by
      have:xs.length*i.size<=cap*i.size:=Qj _ d8;simp
      omega) λj y hy=>?_
     have e1':w.drew.heap[(G.ob o).blk]?=some (.cells c T (0,0)):=g4;rw[Addr.add_lit];rw[Qr]at hy;split at hy
     .simp only[Zv]at hy
      simp[World.cell?,e1',hy]
     .simp at hy
    .have hj:=lt_of_getElem? h1
     rw[Zo Om]at h2;exact g6 j a b (by rw[Qc hj];exact h1) (by simpa using h2)
end
section
variable {E : Env} {rd : Option Nat} {N : Nat} {ops : Array Oper} {K : AS → Prop} {s : AS} {rest : List Oper} {d : Option Tmp} {T : TypeId} {p : String} {af : Array Edge}
theorem zit{sz:Nat}{T:TypeId}{o:Nat}{xs:List AV}{a:AV}{ob:AObj}(h:Vec sz T o xs a ob):(xs=[]∧a=zf∧ob=.tip 0 sz T)∨∃ver cap pad,a=.os o ver 0 xs.length cap∧ob=.cells ver T (flat xs++pad)∧(flat xs++pad).length=cap*sz∧(∀x∈xs,x.cells.length=sz)∧xs.length<=cap∧cap<=maxLen:=by
 cases h with
 |nil h=>exact .inl ⟨h,rfl,rfl⟩
 |os ver cap pad h1 h2 h3 h4=>exact .inr ⟨ver,cap,pad,rfl,rfl,h1,h2,h3,h4⟩
theorem qzm{sz:Nat}:∀{xs:List AV}{i:Nat}{x:AV},(∀x∈xs,x.cells.length=sz)->x.cells.length=sz->i<xs.length->∀pad,z0 (flat xs++pad) (0+i*sz) x.cells=flat (xs.set i x)++pad
 | [],_,_,_,_,h,_=>by simp at h
 |y::xs,0,x,hw,hx,_,pad=>by
  have hy:=hw y Sx;simp only[List.set_cons_zero,qbj,z0,Nat.zero_mul,Qz,List.take_zero,List.nil_append,hx];rw[Qa,Zh Om,<-hy,List.drop_length]
  simp
 |y::xs,i+1,x,hw,hx,h,pad=>by
  have hy:=hw y Sx;have ih:=qzm (xs:=xs) (i:=i) (x:=x) (λz hz=>hw z (by simp[hz])) hx (by simpa using h) pad;simp only[Xb,qbj,z0,Qz]at ih⊢;have e:(i+1)*sz=y.cells.length+i*sz:=by rw[Zs,hy];omega
  simp only[Qa]at ih⊢;rw[e,List.take_length_add_append,show y.cells.length+i*sz+x.cells.length=y.cells.length+(i*sz+x.cells.length)by omega,List.drop_length_add_append];simp only[Qa];rw[ih]
theorem q4b{sz:Nat}{xs pad:List AV}(hw:∀x∈xs,x.cells.length=sz){i:Nat}{x:AV}(hi:xs[i]?=some x):((flat xs++pad).drop (i*sz)).take sz=x.cells:=by
 have e8:=lt_of_getElem? hi;have hx:=hw x (Zg hi);apply Zi;intro j;rw[Qr];by_cases hj:j<sz
 .rw[if_pos hj,Za,<-qjd hw hi j hj]
  have d8:(i+1)*sz<=xs.length*sz:=Qj _ e8;rw[Xq]at d8;rw[Qc (by rw[jh hw];omega)]
 .rw[if_neg hj,Qu Om]
end
structure Chg (N:Nat) (s s':AS):Prop where
 run:∀(B0:Nat)(w0:World)(G:Gh)(a:Act)(w:World),Inv B0 w0 N G s a w->∃G',G.le G'∧Inv B0 w0 N G' s' a w
theorem Chg.trans{N:Nat}{s s' s'':AS}(h:Chg N s s')(k:Chg N s' s''):Chg N s s'':=⟨λB0 w0 G a w hI=>let ⟨G1,h1,h2⟩:=h.run B0 w0 G a w hI;let ⟨G2,k1,k2⟩:=k.run B0 w0 G1 a w h2;⟨G2,h1.trans k1,k2⟩⟩
end Go.Av
namespace Go.Proofs.YthnbabbhpeebbaaGreatDoor
open Go Go.Av Go.RowKit Go.Proofs Go.Pl
theorem q99(text:List UInt8)(o kb ver n:Nat)(I:Nat->List UInt8->List AObj->Prop)(D:List AObj->Prop)(st l0:List AObj)(ht:text.length<4294967281)(h0:I 0 text l0)
  (hI:∀k rest l,I k rest l->l.length=n∧(st++l)[kb]?=some (.cells ver 9 [Sv text]))
  (hY:∀k rest l own ext,I k rest l->rest≠[]->rest.length<=text.length->qaf E o [qd5 k text rest] (st++(l++own::ext)) λb st2=>∃l' ext',st2=st++(l'++own::ext')∧(b=true->I (k+1) (past 10 rest) l')∧(b=false->D l'∧l'.length=n)):
  qm E 183 [.yd o,.bx kb ver 0] (st++l0) λr st'=>∃l own ext',st'=st++(l++own::ext')∧((∃k,I k [] l)∨D l):=by
 refine qq Tryz.func183 rfl (Qd rfl) ?_;obtain⟨hn,hb⟩:=hI 0 text l0 h0;repeat' (first|apply qp|apply zm|apply qi|apply qh|apply qj|(apply kj;exact rfl;exact rfl)|(apply jt;(iterate 11 exact rfl))|(apply yc;(iterate 3 exact rfl))|(apply qcw;exact rfl;exact rfl;exact hb;exact rfl;exact rfl))
 refine xy (λ(x:Nat×List UInt8)s=>match x with|(k,rest)=>∃l at' ta eb ext,I k rest l∧k+rest.length<=text.length∧at'=(text.length:Int)-rest.length∧StA [(0,.yd o),(1,.bx kb ver 0),(3,.bx ((st++l0).length+0) 0 0),(4,Sv rest)] ((st++l)++(.cells 0 221 [Iv k,Iv at',Sv ta,Bv eb]::ext)) [] s) (λx=>x.2.length) (0,text)
  ⟨l0,0,[],false,[],h0,Sx,Sx,?_⟩ ?_
 .exact xp ⟨rfl,rfl,rfl,rfl,trivial⟩
 rintro⟨k,rest⟩ _ ⟨l,_,ta,eb,ext,hi,d8,rfl,t,rfl⟩;obtain⟨sf,lx⟩:=hI k rest l hi;have hq:(st++l).length=(st++l0).length:=by simp[hn,sf]
 repeat' (first|apply qp|apply zm|apply qi|apply qh|apply ql|apply qj|(apply zk;exact rfl;exact rfl)|(apply j5;(iterate 3 exact rfl))|(apply qe;exact rfl;apply cd_d<;>intro h)|(apply zr;(iterate 3 exact rfl))|apply za|apply wd|(apply qk;exact Tryz.call146;exact qi9 _ _ _ Om)|(apply qbc;exact rfl;exact hq;(iterate 10 exact rfl))|(apply qb6;exact rfl;exact hq;(iterate 4 exact rfl)))
 .refine qgb rfl (q11 (Qa st l (_::ext)).symm ((hY k rest l _ ext hi h Om).mono ?_))
  rintro b _ ⟨l',ext',rfl,h1,h2⟩
  cases b
  .skip
   rw[<-Qa];repeat' (first|apply qh|(apply j6;exact rfl)|(apply qe;exact rfl;apply qpc;exact cRa)|apply q7)
   refine qo rfl (qbe rfl) ⟨l',_,ext',Qa _ _ _,.inr (h2 rfl).1⟩
  .have hi3:=h1 rfl
   obtain⟨hn3,td⟩:=hI _ _ _ hi3;have hp:=ku 10 rest;have hr0:0<rest.length:=Qw.2 h;have hq3:(st++l').length=(st++l0).length:=by simp[hn,hn3]
   rw[<-Qa];repeat' (first|apply qp|apply qi|apply qh|apply ql|(apply j6;exact rfl)|(apply qe;exact rfl;apply qsu;exact cRa)|(apply wm;(iterate 3 exact rfl))|(apply jw;exact rfl;exact rfl;exact zu Om Om)|(apply qcj;exact rfl;exact rfl;exact zu Om Om)|(apply zr;(iterate 3 exact rfl))|apply za|(apply qcw;exact rfl;exact rfl;exact td;exact rfl;exact rfl)|(apply qbc;exact rfl;exact hq3;(iterate 10 exact rfl))|(apply qb6;exact rfl;exact hq3;(iterate 4 exact rfl)))
   exact⟨(k+1,past 10 rest),⟨l',_,_,_,_,hi3,Om,rfl,xp ⟨rfl,rfl,rfl,rfl,trivial⟩⟩,by simp only;omega⟩
 .have hr:rest=[]:=Classical.not_not.1 h
  subst hr;exact qo rfl (qbe rfl) ⟨l,_,ext,Qa _ _ _,.inl ⟨k,hi⟩⟩
theorem quw{N:Nat}{Q:Exit->AS->Prop}{s:AS}{f:Operand}{p:Tmp}{asg body:Code}{st loc:List AObj}{kb ver:Nat}(text:List UInt8)(d9:s.st=st++loc)(hx:qg N s f=.fn (.func 183) [] [.bx (st.length+kb) ver 0])(ht:text.length<4294967281)
  (I:Nat->List UInt8->List AObj->Prop) (D:Code->List AObj->Prop) (h0:I 0 text loc)
  (hI:∀k rest l,I k rest l->l.length=loc.length∧l[kb]?=some (.cells ver 9 [Sv text])) (hD:∀c l,D c l->l.length=loc.length)
  (hb:∀F own rd k rest l ext m,qlu F N s.t #[p] asg body->I k rest l->rest≠[]->rest.length<=text.length->((st++(l++[.dfr,F .ready none,own]))++ext).length=m->((st++(l++[.dfr,F .busy none,own]))++ext).length=m->
   AWp E (some rd) N asg (only λs1=>∃new,s1.st=((st++(l++[.dfr,F .ready none,own]))++ext)++new∧s1.df=[]∧AWp E (some rd) N body (q91 F st own (I (k+1) (past 10 rest)) D) ⟨s1.t,((st++(l++[.dfr,F .busy none,own]))++ext)++new,[]⟩) ⟨put s.t p (qd5 k text rest),((st++(l++[.dfr,F .ready none,own]))++ext)++[],[]⟩)
  (hn:∀k l ext,I k [] l->Q .normal ⟨s.t,((st++(l++[.dfr,.dead]))++ext)++[],(st.length+loc.length)::s.df⟩)
  (hd:∀c l ext,D c l->AWp E none N c Q ⟨s.t,((st++(l++[.dfr,.dead]))++ext)++[],(st.length+loc.length)::s.df⟩):AWp E none N (.rangeFunc f #[p] asg body) Q s:=by
 refine ql2 d9 hx Tryz.call183 λF hF=>?_;refine qm.mono (q99 text (st.length+(loc.length+1)) (st.length+kb) ver (loc.length+2) (λk rest l=>∃l1,l=l1++[.dfr,F .ready none]∧I k rest l1) (λl=>∃l1 c,l=l1++[.dfr,F .done (some c)]∧D c l1) st (loc++[.dfr,F .ready none]) ht ⟨loc,rfl,h0⟩ ?_ ?_) ?_
 .rintro k rest _ ⟨l,rfl,hi⟩
  obtain⟨h1,h2⟩:=hI k rest l hi;exact⟨by simp[h1],jl (by rw[Qc (lt_of_getElem? h2)];exact h2)⟩
 .rintro k rest _ own ext ⟨l,rfl,hi⟩ d7 d8
  obtain⟨h1,h2⟩:=hI k rest l hi;have hy:=za6 (E:=E) (st:=st) (l:=l) (ext:=ext) (own:=own) (n:=loc.length) (xs:=[qd5 k text rest]) (I:=I (k+1) (past 10 rest)) (D:=D) hF h1 rfl (λl hl=>(hI _ _ l hl).1) hD (λrd=>hb F own rd k rest l ext _ hF hi d7 d8 rfl Sx);have e:(st++(l++[.dfr,F .ready none,own]))++ext=st++((l++[.dfr,F .ready none])++own::ext):=Sx
  rw[e]at hy;refine hy.mono ?_;rintro b st2 ⟨l',ext',g1,g2⟩
  cases b with
  |true=>
   obtain⟨rfl,g⟩:=g1 rfl
   exact⟨l'++[.dfr,F .ready none],ext',Sx,λ_=>⟨l',rfl,g⟩,nofun⟩
  |false=>
   obtain⟨c,rfl,g⟩:=g2 rfl;exact⟨l'++[.dfr,F .done (some c)],ext',Sx,nofun,λ_=>⟨⟨l',c,rfl,g⟩,by simp[hD c l' g]⟩⟩
 .rintro r _ ⟨_,own,ext,rfl,⟨k,l,rfl,hi⟩|⟨l,c,rfl,hdl⟩⟩
  .have h1:=(hI _ _ _ hi).1
   have e:st++((l++[.dfr,F .ready none])++own::ext)=(st++(l++[.dfr,F .ready none,own]))++ext:=Sx
   rw[e];refine⟨.ready,none,nofun,qdn h1,?_⟩;rw[qfo h1];have:=hn k l (own::ext) hi
   simpa using this
  .have h1:=hD _ _ hdl
   have e:st++((l++[.dfr,F .done (some c)])++own::ext)=(st++(l++[.dfr,F .done (some c),own]))++ext:=Sx
   rw[e];refine⟨.done,some c,nofun,qdn h1,?_⟩;rw[qfo h1];have:=hd c l (own::ext) hdl
   simpa using this
abbrev Ss(xs:List qa):AV:=.sl 1 (xs.map λx=>Sv x) none
theorem qj0(l m:List UInt8)(st:List AObj):qm E 148 [Sv l,Sv m] st λr st'=>r=Sv (Lib.trimPrefix l m)∧st'=st:=
 yt (vals:= #[.string ⟨l.toArray⟩,.string ⟨m.toArray⟩]) rfl λ_ _ w _ _=>(Tryz.strings_TrimPrefix ⟨l.toArray⟩ ⟨m.toArray⟩ w).mono λ_ _ ⟨h1,h2⟩=>⟨h1,qel h2⟩
theorem q4a(l:List UInt8)(c:UInt8)(st:List AObj):qm E 148 [Sv l,Sv [c]] st λr st'=>r=Sv (yq c l)∧st'=st:=by
 rw[<-qvp];exact qj0 _ _ _
theorem q6t{B0:Nat}{w0:World}{G:Gh}{st:List AObj}{w:World}(hA:zb B0 w0 G st w){xs:List qa}{tip:Option Nat}{v:Value}(h:Rel G (.sl 1 (xs.map λx=>Sv x) tip) v):
  (xs=[]∧∃a c,v=.slice a 0 c)∨∃b off cap,v=.slice (some ⟨b,off,none⟩) xs.length cap∧b<w.heap.size∧xs.length<=cap∧∀(j:Nat)(x:qa),xs[j]?=some x->w.cell? ⟨b,off+j,none⟩=some (.string ⟨x.toArray⟩):=by
 generalize hq:xs.map (λx=>Sv x)=q at h
 cases h with
 |sl0 sz tip base cap ht=>exact .inl ⟨by simpa using hq,base,cap,rfl⟩
 |sl _ _ _ b off cap pub hp hw b9 hr ht s4=>
  subst hq;obtain⟨c,T,fz,hc,hcc⟩:=hA.pub b pub hp;refine .inr ⟨b,off,cap,Sx,hA.pub_lt hp,by simpa using s4,λj x hx=>?_⟩
  have r6:flat (xs.map λx=>Sv x)=xs.map λx=>Sv x:=by
   clear hx hr b9 hw ht s4
   induction xs with
   |nil=>rfl
   |cons a xs ih=>rw[Qv,qbj,ih];rfl
  have hj:=lt_of_getElem? hx;rw[r6]at b9;simp only[Qn]at b9;have hy:pub[off+j]?=some (pub[off+j]'(by omega)):=Qe Om;have hrj:=hr j (Sv x) _ (by rw[r6,Qo,hx];rfl) hy;generalize hz:pub[off+j]'(by omega)=z at hrj hy;generalize hSx:Sv x=sx at hrj
  cases hrj<;>simp_all
  subst_vars
  simp[World.cell?,hc,hcc _ _ hy]
theorem q8t(xs:List qa)(tip:Option Nat)(sep:qa)(st:List AObj)(hN:xs.length<=140737488355328)(hl:(Lib.join xs sep).length<=140737488355328):qm E 177 [.sl 1 (xs.map λx=>Sv x) tip,Sv sep] st λr st'=>r=Sv (Lib.join xs sep)∧st'=st:=by
 refine⟨λB0 w0 G vs w hL hA hR=>?_⟩;have hs:vs.size=2:=by have:=hR.1;simpa using this.symm
 have e0:vs[0]?=some vs[0]:=by simp[hs]
 have e1:vs[1]?=some vs[1]:=by simp[hs]
 have h0:=hR.2 0 _ _ rfl e0;have h1:=hR.2 1 _ _ rfl e1;have hv1:vs[1]=.string ⟨sep.toArray⟩:=by generalize vs[1]=y at h1;cases h1;rfl
 have hvs:vs= #[vs[0],.string ⟨sep.toArray⟩]:=by
  apply Xu (by simp[hs]);intro i g1 g2
  match i with
  |0=>rfl
  |1=>exact hv1
  |i+2=>simp[hs]at g1;omega
 rw[hvs];rcases q6t hA h0 with⟨hx,a,c,hv⟩|⟨b,off,cap,hv,hb,s4,s9⟩
 .rw[hv]
  subst hx;refine(Tryz.strings_Join_none a c ⟨sep.toArray⟩ w).mono ?_;rintro e w' ⟨rfl,rfl⟩;exact⟨_,G,Sv [],st,rfl,.refl G,hA,.v _,rfl,rfl⟩
 .rw[hv]
  have hm:(xs.map λl:qa=>(⟨l.toArray⟩:ByteArray)).map (·.data.toList)=xs:=by simp[Zn,Function.comp_def]
  have hc:=Tryz.strings_Join b off cap (xs.map λl=>⟨l.toArray⟩) ⟨sep.toArray⟩ w (λj x hx=>by
   rw[Qo]at hx
   cases hq:xs[j]?with
   |none=>rw[hq]at hx;simp at hx
   |some y=>rw[hq]at hx;simp at hx;subst hx;exact s9 j y hq) hb (by simpa using hN) (by simpa using s4) (by rw[hm];simpa using hl)
  rw[hm]at hc;simp only[Qn]at hc;refine hc.mono ?_;rintro e w' ⟨rfl,hbw⟩;exact⟨_,G,Sv _,st,rfl,.refl G,hA.fresh hbw,.v _,rfl,rfl⟩
def Weak(x r:AV):Prop:=∀(G:Gh)(v:Value),Rel G x v->Rel G r v
theorem qbr(x:AV):Weak x x:=λ_ _ h=>h
theorem qne(sz:Nat)(xs:List AV)(tip:Option Nat):Weak (.sl sz xs tip) (.sl sz xs none):=λ_ _ h=>qov h
theorem qga(sz:Nat):Weak zf (.sl sz [] none):=λ_ _ h=>qbo h
theorem qfd{x y x' y':AV}(h1:Weak x x')(h2:Weak y y'):Weak (.tu [x,y]) (.tu [x',y']):=λG v h=>by
 cases h with
 |tu _ vs hl hr=>
  refine .tu _ vs hl λi a b ha hb=>?_
  match i with
  |0=>simp at ha;subst ha;exact h1 G b (hr 0 x b rfl hb)
  |1=>simp at ha;subst ha;exact h2 G b (hr 1 y b rfl hb)
  |i+2=>simp at ha
theorem zgw{xs ys:List AV}(hl:xs.length=ys.length)(h:∀(i:Nat)(x y:AV),xs[i]?=some x->ys[i]?=some y->Weak x y):Weak (.ag xs) (.ag ys):=λG v hr=>by
 cases hr with
 |ag _ vs bq hr=>
  refine .ag _ vs Om λi a b ha hb=>?_;have hi:=lt_of_getElem? ha;exact h i _ a (Qe Om) ha G b (hr i _ b (Qe Om) hb)
theorem q4u{fn:Func}{s:AS}{t u:Tmp}{x y x' y':AV}(hr:fn.results= #[.tmp t,.tmp u])(hx:qg fn.ntmps s (.tmp t)=x)(hy:qg fn.ntmps s (.tmp u)=y)(h1:Weak x x')(h2:Weak y y'):ARes E fn s (.tu [x',y']):=
 vh (wz hr) (by rw[hx,hy];exact qfd h1 h2)
def errN(n:Int):AV:=if n=0 then .v .nilIface else .ifc 43 (Iv n)
theorem qkg(n:Int):Pure (errN n):=by
 unfold errN;split
 .exact qw _
 .exact qcu (qw _)
theorem qli{n:Int}(h:n≠0):errN n=.ifc 43 (Iv n):=if_neg h
theorem qqa(f:FldV)(st:List AObj)(hl:f.1.length<4294967281):qm E 221 [fldA f] st λr st'=>r=errN (v7 f)∧st'=st:=by
 refine ze (qkg _) (qq Tryz.func221 rfl (Qd rfl) ?_);repeat' (first|apply qp|apply zm|apply qi|apply qh|apply qj|(apply zh;(iterate 3 exact rfl))|(apply j6;exact rfl)|(apply qe;exact rfl;apply cd_n<;>intro h)|(apply qe;exact rfl;apply cd_d<;>intro h)|(apply wm;(iterate 3 exact rfl))|(apply vc;exact rfl;exact rfl)|(apply qch;(iterate 4 exact rfl))|(apply zr;(iterate 3 exact rfl))|(apply ve;(iterate 5 exact rfl))|apply za|apply q7|(apply qk;exact Tryz.call231;exact zd4 _ _ hl))
 all_goals refine qo rfl (zt rfl) ⟨(?_:_=_),_,rfl⟩
 .have e:v7 f=5:=if_pos (by simp_all)
  rw[e];rfl
 .have e:v7 f=6:=(if_neg (by simp_all)).trans (if_pos Om)
  rw[e];rfl
 .have e:v7 f=0:=(if_neg (by simp_all)).trans (if_neg Om)
  rw[e];rfl
theorem qjf(f:FldV)(st:List AObj)(hl:f.1.length<4294967281)(h:v7 f=0):qm E 221 [fldA f] st λr st'=>r=.v .nilIface∧st'=st:=by
 have:=qqa f st hl;rw[h]at this;exact this
theorem qjg(f:FldV)(st:List AObj)(hl:f.1.length<4294967281)(h:v7 f≠0):qm E 221 [fldA f] st λr st'=>r=.ifc 43 (Iv (v7 f))∧st'=st:=by
 have:=qqa f st hl;rw[qli h]at this;exact this
theorem zad(s:List UInt8)(st:List AObj)(hl:s.length<4294967281):qm E 223 [Sv s] st λr st'=>r=Sv (xg s)∧st'=st:=by
 refine ze (qw _) (qq Tryz.func223 rfl (Qd rfl) ?_);have hb:Lib.trimS s [32,9]=[]↔qe4 s:=by rw[qo4];simp[x6,qe4]
 repeat' (first|apply qp|apply qi|apply qh|apply ql|apply qj|(apply j5;(iterate 3 exact rfl))|(apply zn;(iterate 4 exact rfl))|(apply qcq;exact cAo)|(apply qce;exact cAo)|(apply xv<;>intro h)|(apply qn;exact rfl;apply qeb;exact cAo)|(apply qn;exact rfl;apply qea;exact cAo)|(apply qe;exact rfl;apply cd_t;exact cRa)|(apply qe;exact rfl;apply cd_d<;>intro h)|(apply vb;exact rfl;exact rfl;exact cOs)|apply za|apply q7|(apply qk;exact Tryz.call47;exact qls _ _ _ Om rfl rfl)|(apply qk;exact Tryz.call193;exact qfz _ _ _))
 all_goals refine qo rfl (zt rfl) ⟨congrArg (λl:qa=>Sv l) (?_:_=xg s),_,rfl⟩
 all_goals unfold xg
 all_goals simp_all
theorem q33(xs:List qa):Pure (Ss xs):=q9r xs
theorem q6r(l p:qa)(r:List qa)(st:List AObj)(hl:l.length<4294967281)(h:zx l=p::r):qm E 222 [Sv l,Sv [10]] st λx st'=>x=.sl 1 (Sv p::r.map λx=>Sv x) none∧st'=st:=by
 have:=q98 l st hl;rw[h]at this;exact this
def qjm(f:FldV):AV:=.tu [Ss (if v7 f=0 then ju f else []),errN (v7 f)]
theorem q2j(f:FldV):Pure (qjm f):=qfl λx hx=>by
 simp only[Qq,Zd,or_false]at hx;rcases hx with rfl|rfl
 .exact q33 _
 .exact qkg _
set_option maxHeartbeats 2000000 in
theorem qqb(f:FldV)(st:List AObj)(hl:f.1.length<4294967281)(hv:f.2.length<1000000):qm E 174 [fldA f] st λr st'=>r=qjm f∧st'=st:=by
 refine ze (q2j _) (qq Tryz.func174 rfl (Qd rfl) ?_);by_cases hc:v7 f=0
 .obtain⟨p,r,hp⟩:∃p r,zx f.2=p::r:=⟨_,_,qtw f.2⟩
  have gm:p.length<=f.2.length:=qqm f.2 p (by rw[hp];simp);have hrl:∀x∈r,x.length<=f.2.length:=λx hx=>qqm f.2 x (by rw[hp];simp[hx]);have hrn:r.length<=f.2.length:=by have:=qib _ f.2 (Qg _);rw[hp]at this;simpa using this
  repeat' (first|(apply qaw;(iterate 6 exact rfl))|(apply q7e;(iterate 5 exact rfl);kernel_rfl)|apply qp|apply zm|apply qi|apply qh|apply ql|apply qj|(apply j5;(iterate 3 exact rfl))|(apply qe;exact rfl;apply cd_f;exact cRa)|(apply qe;exact rfl;apply cd_d<;>intro h)|(apply kc;(iterate 4 exact rfl))|(apply vb;exact rfl;exact rfl;exact cOs)|(apply vp;exact rfl;exact rfl)|(apply qch;(iterate 4 exact rfl))|(apply zr;(iterate 3 exact rfl))|(apply vr;(iterate 3 exact rfl))|(apply ve;(iterate 5 exact rfl))|(apply jt;(iterate 11 exact rfl))|(apply qgc;(iterate 4 exact rfl);(first|assumption|omega|exact Nat.succ_le_succ (Xf _)|(simp;omega));exact rfl)|apply qnv|(apply qnu;exact rfl;exact rfl;exact cOs)|(apply ql0;(iterate 3 exact rfl))|(apply qkw;(iterate 5 exact rfl))|apply qk8|apply za|(apply qk;exact Tryz.call221;exact qjf _ _ hl hc)|(apply qk;exact Tryz.call222;exact q6r _ _ _ _ Om hp)|(apply wv (n:=0);(iterate 6 exact rfl))|(apply qyl (n:=0);(iterate 6 exact rfl))|(apply qsk (n:=0);(iterate 5 exact rfl);omega))
  all_goals refine q7h 6 (o:=st.length+1) (sz:=1) (len:=1) (cap:=1) (xs:=[Sv (vn f.1 p)]) (T':=9) rfl (jl rfl) rfl rfl Om (Qg _) (by decide) (by simp[AV.cells]) ?_ ?_
  .exact congrArg (λl:qa=>[Sv l]) (by unfold vn;rw[if_neg h]:vn f.1 p=f.1++[58]++([32]++p))
  rotate_left
  .exact congrArg (λl:qa=>[Sv l]) (by unfold vn;rw[if_pos (Classical.not_not.1 h),Qy]:vn f.1 p=f.1++[58])
  all_goals
   have hre:qjm f=.tu [Ss (vn f.1 p::r.map λs=>[32]++xg s),.v .nilIface]:=by
    unfold qjm ju;rw[if_pos hc,hc,hp];rfl
   rw[hre];have d9:∀s,(xg s).length<=s.length+1:=qw7;refine qhg r (λpre s=>StE [(6,.sl 1 (Sv (vn f.1 p)::pre.map (λs=>Sv ([32]++xg s))) (some (st.length+1))),(35,.sl 1 (r.map λx=>Sv x) none),(36,Iv r.length),(37,Iv pre.length)] st [.cells 0 117 [Sv f.1,Sv f.2],.tip (pre.length+1) 1 9] s) (qpq ⟨rfl,rfl,congrArg (λn:Nat=>Iv (n:Int)) (Qn ..),rfl,trivial⟩ (x9 st _ 1 _)) ?_ ?_
   .rintro _ ⟨t,ext,rfl⟩
    repeat' (first|apply qp|apply qi|apply qh|apply ql|apply qj|(apply zh;(iterate 3 exact rfl))|(apply qe;exact rfl;apply yw;exact cAo)|apply wd|apply q7)
    refine qo rfl (q4u rfl rfl rfl (qne _ _ _) (qbr _)) ⟨?_,qgj _ _ _ _⟩;simp only[Ss,Qv,Zn];rfl
   .rintro pre a rest _ hr ⟨t,ext,rfl⟩
    have b9:r.length=pre.length+(rest.length+1):=by rw[hr];simp
    have i8:(r.map λx=>Sv x)[pre.length]?=some (Sv a):=by rw[hr];simp
    have ha:a.length<=f.2.length:=hrl a (by rw[hr];simp);have hsa:=d9 a;repeat' (first|apply qp|apply zm|apply qi|apply qh|apply ql|apply qj|(apply zh;(iterate 3 exact rfl))|(apply qe;exact rfl;apply y5;exact cAo)|(apply vb;exact rfl;exact rfl;exact cOs)|(apply jw;exact rfl;exact rfl;exact zu Om Om)|(apply vr;(iterate 3 exact rfl))|(apply xj;(iterate 9 exact rfl))|apply za|(apply qk;exact Tryz.call223;exact zad _ _ Om)|(apply wv (n:=pre.length);(iterate 5 exact rfl);exact i8)|(apply qsc (n:=pre.length+1) (m:=1) (sz:=1) (bytes:=16);(iterate 4 exact rfl);simp;exact rfl;exact rfl;exact⟨⟨_,_,rfl,rfl,rfl,rfl,rfl⟩⟩;exact rfl;exact rfl;(unfold maxLen;omega);omega;exact rfl))
    refine qjx ⟨?_,rfl,rfl,?_,trivial⟩ ?_
    .exact zdg _ (λs=>Sv ([32]++xg s)) pre a _ rfl
    .exact qu4 pre a
    .rw[qjw pre a];rfl
 .skip
  repeat' (first|apply qp|apply qi|apply qh|apply ql|apply qj|(apply qe;exact rfl;apply cd_t;exact cRa)|(apply wq;exact rfl;exact rfl)|(apply qch;(iterate 4 exact rfl))|(apply ve;(iterate 5 exact rfl))|apply q7|(apply qk;exact Tryz.call221;exact qjg _ _ hl hc))
  refine qo rfl (vh (r':=.tu [Ss [],.ifc 43 (Iv (v7 f))]) (wz rfl) (qfd (qga _) (qbr _))) ⟨?_,_,rfl⟩;unfold qjm;rw[if_neg hc,qli hc]
theorem qku{rd:Option Nat}{N:Nat}{ops:Array Oper}{K:AS->Prop}{s:AS}{rest:List Oper}{d:Option Tmp}{T:TypeId}{p:String}{af:Array Edge}{st loc:List AObj}(d9:s.st=st++loc)
  (h:AOps E rd N ops rest K (AS.put ⟨s.t,st++(loc++[bldO 0 (.v (.pointer none)) [] (st.length+(loc.length+1)),.tip 0 1 5]),s.df⟩ d (.bx (st.length+loc.length) 0 0))):AOps E rd N ops (⟨d,.alloc 193,T,p,af,none⟩::rest) K s:=by
 refine kj d9 rfl ?_;have e:∀(t:Nat->AV)(st':List AObj)(df:List Nat)(x:AV),(AS.put ⟨t,st',df⟩ d x).st=st':=λt st' df x=>by cases d<;>rfl
 have e2:∀(t:Nat->AV)(st' st2:List AObj)(df:List Nat)(x:AV),(⟨(AS.put ⟨t,st',df⟩ d x).t,st2,(AS.put ⟨t,st',df⟩ d x).df⟩:AS)=AS.put ⟨t,st2,df⟩ d x:=λt st' st2 df x=>by cases d<;>rfl
 refine qyj (o:=st.length+loc.length) (j:=1) (sz:=1) (T':=5) (T1:=193) (ver:=0) (cs:=[.v (.pointer none),zf]) ?_ rfl ?_
 .rw[e,<-Qa,Qf Sx]
  simp;rfl
 .rw[e,e2]
  have hx:(st++(loc++[AObj.cells 0 193 [.v (.pointer none),zf]])).set (st.length+loc.length) (.cells 0 193 ([AV.v (.pointer none),zf].set 1 (.sl 1 [] (some (st++(loc++[AObj.cells 0 193 [.v (.pointer none),zf]])).length))))++[AObj.tip 0 1 5]
    =st++(loc++[bldO 0 (.v (.pointer none)) [] (st.length+(loc.length+1)),.tip 0 1 5]):=by
   rw[x9,Qa,Qt _ _ (Qg _)];simp
  have h':=h;rw[<-hx]at h';exact h'
theorem ql3(st loc ext new loc':List AObj)(k kt ver:Nat)(q:AV)(l m:List UInt8)(hk:loc[k]?=some (bldO ver q l (st.length+kt)))(rm:loc[kt]?=some (.tip l.length 1 5))(hq:q=.v (.pointer none)∨q=.bx (st.length+k) ver 0)
  (b9:l.length+m.length<=140737488355328) (hl:loc'=(loc.set k (bldO ver (.bx (st.length+k) ver 0) (l++m) (st.length+kt))).set kt (.tip (l++m).length 1 5)):
  qm E 130 [.bx (st.length+k) ver 0,Sv m] (((st++loc)++ext)++new) λr st'=>r=.tu [Iv m.length,.v .nilIface]∧st'=((st++loc')++ext)++new:=by
 refine(qyq (st.length+k) ver (st.length+kt) q l m _ (qc7 hk) (qc7 rm) hq b9).mono λr st' ⟨h1,h2⟩=>⟨h1,?_⟩;have tz:=lt_of_getElem? hk;have gv:=lt_of_getElem? rm;rw[h2,qi4 _ tz,qi4 _ (by simpa using gv),hl,Qb]
theorem qkx(st loc ext new loc':List AObj)(k kt ver:Nat)(q:AV)(l:List UInt8)(hk:loc[k]?=some (bldO ver q l (st.length+kt)))(rm:loc[kt]?=some (.tip l.length 1 5))(hl:loc'=loc.set kt .dead):
  qm E 133 [.bx (st.length+k) ver 0] (((st++loc)++ext)++new) λr st'=>r=Sv l∧st'=((st++loc')++ext)++new:=by
 refine(qvv (st.length+k) ver (st.length+kt) q l _ (qc7 hk) (qc7 rm)).mono λr st' ⟨h1,h2⟩=>⟨h1,?_⟩;rw[h2,qi4 _ (lt_of_getElem? rm),hl]
theorem q1h:∀(r:List qa),(zp (r.map λs=>[32]++xg s)).length<=3*(r.flatMap λs=>[10]++s).length
 | []=>by simp[zp]
 |a::r=>by
  have ih:=q1h r;have:=qw7 a;simp only[zp,Qv,Qs,Qb,Qh,Qi]at ih⊢;omega
theorem qbp(a b:List qa):zp (a++b)=zp a++zp b:=by simp[zp]
theorem qo2(s:qa):zp [s]=s++[10]:=by simp[zp]
theorem qqq:∀(l:List qa),l.length<=(zp l).length
 | []=>by simp
 |a::r=>by
  have ih:=qqq r;simp only[zp,Qs,Qb,Qh,Qi]at ih⊢;omega
theorem q8g(a b:List Fld):kp (a++b)=kp a++kp b:=by simp[kp]
theorem q8h(f:Fld):kp [f]=zp (ju f):=by simp[kp]
theorem qtn{f:Fld}(h:kf f):(zp (ju f)).length<=5000:=by
 obtain⟨hk,hv⟩:=h;have h1:=q1h (zx f.2).tail;have h2:=congrArg Xe (qmy _ f.2 (Qg _))
 have h3:(vn f.1 ((zx f.2).headD [])).length<=32+2+((zx f.2).headD []).length:=by
  have:=hk.2.1;unfold vn;split <;>simp <;>omega
 have e:ju f=[vn f.1 ((zx f.2).headD [])]++(zx f.2).tail.map λs=>[32]++xg s:=rfl;rw[e,qbp,qo2];simp only[Qb,Qh,Qi]at h2⊢;omega
theorem qhn:∀(xs:List Fld),(∀f∈xs,kf f)->(kp xs).length<=5000*xs.length
 | [],_=>by simp[kp]
 |f::r,h=>by
  have ih:=qhn r λx hx=>h x (by simp[hx]);have h1:=qtn (h f Sx);have e:kp (f::r)=zp (ju f)++kp r:=by simp[kp]
  rw[e,Qb,Qh];omega
def errF:List Fld->Int
 | []=>0
 |f::r=>if v7 f≠0 then v7 f else errF r
theorem qn7:∀(xs:List Fld),errF xs=0↔∀f∈xs,kf f
 | []=>by simp[errF]
 |f::r=>by
  have ih:=qn7 r;unfold errF;by_cases h:v7 f≠0
  .rw[if_pos h]
   have hg:¬kf f:=λhg=>h ((qc6 f).2 hg);simp[h,hg]
  .have hg:=(qc6 f).1 (Classical.not_not.1 h)
   rw[if_neg h,ih];simp[hg]
theorem q3l:∀{pre:List Fld}{f:Fld}{r:List Fld},(∀x∈pre,kf x)->v7 f≠0->errF (pre++f::r)=v7 f
 | [],f,r,_,h=>by simp[errF,h]
 |x::pre,f,r,hp,h=>by
  have:=(qc6 x).2 (hp x Sx);simp only[Xi,errF,this];rw[if_neg Sx];exact q3l (λy hy=>hp y (by simp[hy])) h
theorem qzn(f:FldV)(st:List AObj)(hl:f.1.length<4294967281)(hv:f.2.length<1000000)(h:v7 f=0):qm E 174 [fldA f] st λr st'=>r=.tu [Ss (ju f),.v .nilIface]∧st'=st:=by
 have:=qqb f st hl hv;unfold qjm at this;rw[if_pos h,h]at this;exact this
theorem qzo(f:FldV)(st:List AObj)(hl:f.1.length<4294967281)(hv:f.2.length<1000000)(h:v7 f≠0):qm E 174 [fldA f] st λr st'=>r=.tu [Ss [],.ifc 43 (Iv (v7 f))]∧st'=st:=by
 have:=qqb f st hl hv;unfold qjm at this;rw[if_neg h,qli h]at this;exact this
def qtd(xs:List Fld):AV:=.tu [Sv (if errF xs=0 then kp xs else []),errN (errF xs)]
theorem q5l(xs:List Fld):Pure (qtd xs):=qfl λx hx=>by
 simp only[Qq,Zd,or_false]at hx;rcases hx with rfl|rfl
 .exact qw _
 .exact qkg _
structure zdy (xs:List FldV):Prop where
 len:xs.length<1000000
 val:∀f∈xs,f.1.length<4294967281∧f.2.length<1000000
set_option maxHeartbeats 2000000 in
theorem zhn(xs:List FldV)(st:List AObj)(hx:zdy xs):qm E 129 [wn xs] st λr st'=>r=qtd xs∧st'=st:=by
 refine ze (q5l _) (qq Tryz.func129 rfl (Qd rfl) ?_);have hxl:=hx.len;repeat' (first|(apply qku;exact rfl)|apply qp|apply zm|apply qi|apply qh|apply ql|apply qj|(apply kc;(iterate 4 exact rfl)))
 refine qhg xs (λpre s=>(∀f∈pre,kf f)∧∃q,(q=.v (.pointer none)∨q=.bx (st.length+0) 0 0)∧StE [(4,.bx (st.length+0) 0 0),(11,wn xs),(12,Iv xs.length),(13,Iv pre.length)] st [bldO 0 q (kp pre) (st.length+1),.tip (kp pre).length 1 5] s) ⟨Sx,_,.inl rfl,qpq ⟨rfl,rfl,congrArg (λn:Nat=>Iv (n:Int)) (Qn ..),rfl,trivial⟩ rfl⟩ ?_ ?_
 .rintro _ ⟨hg,q,hq,t,ext,rfl⟩
  repeat' (first|apply qp|apply qi|apply qh|apply qj|(apply zh;(iterate 3 exact rfl))|(apply qe;exact rfl;apply yw;exact cAo)|apply wd|apply q7|(refine qk Tryz.call133 (qkx st _ _ _ _ 0 1 0 _ _ rfl rfl rfl) ?_))
  refine qo rfl (wz rfl) ⟨?_,qgj _ _ _ _⟩;unfold qtd;have h0:=(qn7 xs).2 hg;rw[if_pos h0,h0];rfl
 .rintro pre f rest _ hr ⟨hg,q,hq,t,ext,rfl⟩
  have b9:xs.length=pre.length+(rest.length+1):=by rw[hr];simp
  have i8:(xs.map fldA)[pre.length]?=some (fldA f):=by rw[hr];simp
  obtain⟨hf1,hf2⟩:=hx.val f (by rw[hr];simp);by_cases hc:v7 f=0
  .have hgf:=(qc6 f).1 hc
   have db:=qhn pre hg;have gp:=qtn hgf;repeat' (first|apply qp|apply zm|apply qi|apply qh|apply ql|apply qj|(apply zk;exact rfl;exact rfl)|(apply zh;(iterate 3 exact rfl))|(apply qe;exact rfl;apply y5;exact cAo)|(apply qe;exact rfl;apply cd_f;exact cRa)|(apply kc;(iterate 4 exact rfl))|(apply vp;exact rfl;exact rfl)|(apply kj;exact rfl;exact rfl)|(apply vr;(iterate 3 exact rfl))|(apply ve;(iterate 5 exact rfl))|(apply jt;(iterate 11 exact rfl))|apply za|(apply qk;exact Tryz.call174;exact qzn _ _ hf1 hf2 hc)|(apply wv (n:=pre.length);(iterate 5 exact rfl);exact i8))
   refine qhg (ju f) (λlp s=>∃q,(q=.v (.pointer none)∨q=.bx (st.length+0) 0 0)∧StE [(4,.bx (st.length+0) 0 0),(11,wn xs),(12,Iv xs.length),(13,Iv pre.length),(25,Ss (ju f)),(26,Iv (ju f).length),(27,Iv lp.length)] st [bldO 0 q (kp pre++zp lp) (st.length+1),.tip (kp pre++zp lp).length 1 5] s) ⟨_,hq,qjx ⟨rfl,rfl,rfl,rfl,rfl,congrArg (λn:Nat=>Iv (n:Int)) (Qn ..),rfl,trivial⟩ (by simp[zp])⟩ ?_ ?_
   .rintro _ ⟨q,hq,t,ext,rfl⟩
    repeat' (first|apply qp|apply qi|apply qh|apply ql|(apply zh;(iterate 3 exact rfl))|(apply qe;exact rfl;apply yw;exact cAo)|(apply jw;exact rfl;exact rfl;exact zu Om Om)|apply wd)
    refine⟨λx hx=>?_,q,hq,qjx ⟨rfl,rfl,rfl,?_,trivial⟩ ?_⟩
    .rcases Qx.1 hx with hx|hx
     .exact hg x hx
     .simp at hx;subst hx;exact hgf
    .rw[qjw pre f];rfl
    .rw[q8g,q8h]
   .rintro lp a lr _ hlr ⟨q,hq,t,ext,rfl⟩
    have hlen2:(ju f).length=lp.length+(lr.length+1):=by rw[hlr];simp
    have hget2:((ju f).map λx=>Sv x)[lp.length]?=some (Sv a):=by rw[hlr];simp
    have td:(zp lp).length+(a.length+1)<=5000:=by
     rw[hlr,qbp]at gp;have:a::lr=[a]++lr:=rfl;rw[this,qbp,qo2]at gp;simp only[Qb,Qh,Qi]at gp;omega
    have hct:=qqq lp;repeat' (first|apply qp|apply zm|apply qi|apply qh|apply ql|apply qj|(apply zh;(iterate 3 exact rfl))|(apply qe;exact rfl;apply y5;exact cAo)|(apply vb;exact rfl;exact rfl;exact cOs)|(apply vr;(iterate 3 exact rfl))|apply za|(apply wv (n:=lp.length);(iterate 5 exact rfl);exact hget2))
    refine qk Tryz.call130 (ql3 st _ _ _ _ 0 1 0 _ _ _ rfl rfl ?_ ?_ rfl) ?_;(exact hq);(simp only[Qb,Qh,Qi];omega);repeat' (first|apply qi|apply qh|apply ql|(apply jw;exact rfl;exact rfl;exact zu Om Om))
    refine⟨_,.inr rfl,qjx ⟨rfl,rfl,rfl,rfl,rfl,rfl,?_,trivial⟩ ?_⟩
    .rw[qjw lp a];rfl
    .have e:kp pre++zp (lp++[a])=(kp pre++zp lp)++(a++[10]):=by rw[qbp,qo2,Qa]
     rw[e];rfl
  .skip
   repeat' (first|apply qp|apply zm|apply qi|apply qh|apply ql|apply qj|(apply zk;exact rfl;exact rfl)|(apply zh;(iterate 3 exact rfl))|(apply qe;exact rfl;apply y5;exact cAo)|(apply qe;exact rfl;apply cd_t;exact cRa)|(apply wq;exact rfl;exact rfl)|(apply kj;exact rfl;exact rfl)|(apply vr;(iterate 3 exact rfl))|(apply ve;(iterate 5 exact rfl))|(apply jt;(iterate 11 exact rfl))|apply za|apply q7|(apply qk;exact Tryz.call174;exact qzo _ _ hf1 hf2 hc)|(apply wv (n:=pre.length);(iterate 5 exact rfl);exact i8))
   refine qo rfl (wz rfl) ⟨?_,qgj _ _ _ _⟩;unfold qtd;have h0:errF xs=v7 f:=by rw[hr];exact q3l hg hc
   rw[h0,if_neg hc,qli hc];rfl
theorem qf2:∀(n:Nat)(l:qa)(c:UInt8),l.length<=n->c≠10->zx (l++[c])=(zx l).set ((zx l).length-1) ((zx l).getD ((zx l).length-1) []++[c])
 |n,l,c,hn,hc=>by
  by_cases h:10∈l
  .have d7:l≠[]:=λe=>by subst e;simp at h
   have e8:=yn (c:=10) d7
   cases n with
   |zero=>omega
   |succ n=>
    have ih:=qf2 n (past 10 l) c Om hc;have e:=qar h;have e2:l++[c]=upto 10 l++10::(past 10 l++[c]):=(congrArg (· ++[c]) e).trans Sx;have hp:=qmx (past 10 l);have gm:0<(zx (past 10 l)).length:=Qw.2 hp;rw[qbv (by simp[h]),qbv h,e2,yj _ (qd7 10 l),qad _ (qd7 10 l),ih];have e3:(upto 10 l::zx (past 10 l)).length-1=(zx (past 10 l)).length-1+1:=So
    rw[e3,Xb];simp
  .have h2:10∉l++[c]:=by simp[h,Ne.symm hc]
   rw[qbw h,qbw h2];simp
end Go.Proofs.YthnbabbhpeebbaaGreatDoor
namespace Go.Av
open Go Go.RowKit
@[reducible] def qtu (K : Act → World → Prop) : Exit → Act → World → Prop
 |.normal,a,w=>K a w
 |_,_,_=>False
structure AZ (E:Env) (N:Nat) (ops:Array Oper) (fuel:Nat) (listed:Array Bool) (K:AS->Prop) (s:AS):Prop where
 run:∀(B0:Nat)(w0:World)(G:Gh)(a:Act)(w:World),E.L B0 w0->Inv B0 w0 N G s a w->∀K':Act->World->Prop,(∀G' s' a' w',G.le G'->Inv B0 w0 N G' s' a' w'->K s'->K' a' w')->wpAnyIn (fw none) 0 E.P .any ops (qtu K') fuel listed a w
structure AY (E:Env) (N:Nat) (o:Oper) (s:AS) (r:AV):Prop where
 run:∀(B0:Nat)(w0:World)(G:Gh)(a:Act)(w:World),Inv B0 w0 N G s a w->∃v,(∀w',(execOp a.eval o).run E.P w'=.ok (.value v) w')∧(∀w',o.about E.P w' a.eval=none)∧Rel G r v
section
variable {E : Env} {N : Nat} {ops : Array Oper} {K : AS → Prop} {s : AS} {fuel : Nat} {listed : Array Bool}
theorem qj8{id:Nat}{Q:Exit->AS->Prop}{n:Nat}(hm:E.P.follows .mixedOrders=true)(hn:ops.size=n)(h:AZ E N ops n (Xj n false) (Q .normal) s):AWp E none N (.region id ops true) Q s:=by
 subst hn;refine⟨λB0 w0 G a w hL hI=>?_⟩;have hBl:Below w.heap.size w {w with drawn:=w.drawn+1}:=⟨rfl,rfl,rfl,Qg _,λ_ _=>rfl⟩;have rv:Inv B0 w0 N G s a {w with drawn:=w.drawn+1}:=⟨hI.agree.fresh hBl,hI.defers,hI.size,hI.tmps⟩;have:=h.run B0 w0 G a _ hL rv (λa' w'=>∃(G':Gh)(s':AS),G.le G'∧Inv B0 w0 N G' s' a' w'∧Q .normal s') λG' s' a' w' hG u6 hk=>⟨G',s',hG,u6,hk⟩;refine wpIn_mono (wpIn_region_any hm this) λe a' w' hq=>?_
 cases e with
 |normal=>exact hq
 |_=>exact hq.elim
theorem qc4(hr:Region.ready .any ops listed=[])(h:K s):AZ E N ops fuel listed K s:=
 ⟨λB0 w0 G a w hL hI K' hK=>wpAnyIn_done hr (hK G s a w (.refl G) hI h) fuel⟩
theorem yl(i:Nat){oi:Oper}{r:AV}(hi:ops[i]?=some oi)(hs:Region.noSelect ops=true)(hf:Region.free .any ops listed i=true)(hr:(Region.ready .any ops listed).contains i=true)(hg:oi.guard=none)(hy:AY E N oi s r)
  (h:AZ E N ops fuel (listed.setIfInBounds i true) K (s.put oi.dst r)):AZ E N ops (fuel+1) listed K s:=by
 refine⟨λB0 w0 G a w hL hI K' hK=>?_⟩;obtain⟨v,h1,h2,h3⟩:=hy.run B0 w0 G a w hI;have hwn:Region.wanted oi (yielded ops a.tmps)=true:=by simp[Region.wanted,hg]
 refine wpAnyIn_take (v:=v) rfl hi hs hf hr (λc a w hq=>hq.elim) ⟨.inl ⟨hwn,h1⟩,h2⟩ (h.run B0 w0 G _ w hL (hI.put (.refl G) hI.agree oi.dst h3) K' λG' s' a' w' hG u6 hk=>hK G' s' a' w' hG u6 hk)
theorem q2m{F:Fence}{n:Nat}{P:Program}{o:Oper}{a:Act}{w:World}{next X Y:Act->World->Prop}(h:o.wpIn F n P a w next (qtu X)):o.wpIn F n P a w next (qtu Y):=by
 unfold Oper.wpIn at *;refine⟨h.1,?_⟩;have h:=h.2;generalize(o.semAt F.round a.eval).run P w=r at *
 cases r with
 |ok x w'=>
  cases x<;>simp only[Oper.uponIn]at h⊢
  case value u=>exact h
  case skip=>exact h
  case defer d=>exact h
  case enter f args=>
   refine⟨h.1,CallsIn.mono h.2 λe w'' he=>?_⟩
   cases e with
   |returned u=>exact he
   |panicked c=>exact he.elim
   |outgrown=>exact absurd he (by simp[LetsOut])
  case row row args=>exact h
  case round l f tmps assign body=>
   refine⟨h.1,RoundIn.mono h.2 λe w'' he=>?_⟩
   cases e with
   |returned u=>exact he
   |panicked c=>exact he.elim
   |outgrown=>exact absurd he (by simp[LetsOut])
 |halt x w'=>
  cases x<;>simp only[Oper.uponIn]at h⊢
  case panic u=>exact h.elim
def qxv(P:Nat->Prop):List Nat->Prop
 | []=>True
 |i::r=>P i∧qxv P r
theorem qvq{P:Nat->Prop}:∀{l:List Nat},qxv P l->∀i∈l,P i
 | [],_,_,h=>by simp at h
 |j::l,h,i,hi=>by
  rcases Qq.1 hi with rfl|hi
  .exact h.1
  .exact qvq h.2 i hi
theorem w8(rs:List Nat)(hr:Region.ready .any ops listed=rs)(d7:Xw 0 rs.length=true)
  (h:qxv (λi=>∃o,ops[i]?=some o∧AOps E none N ops [o] (AZ E N ops fuel (listed.setIfInBounds i true) K) s) rs):AZ E N ops (fuel+1) listed K s:=by
 refine⟨λB0 w0 G a w hL hI K' hK=>wpAnyIn_all hr (λe=>by subst e;simp at d7) λi hi=>?_⟩;obtain⟨o,ho,h⟩:=qvq h i hi;have a8:=h.run B0 w0 G a w hL hI (qtu λa' w'=>wpAnyIn (fw none) 0 E.P .any ops (qtu K') fuel (listed.setIfInBounds i true) a' w') λG' s' a' w' hG u6 hk=>hk.run B0 w0 G' a' w' hL u6 K' λG2 s2 a2 w2 sw rv gv=>hK G2 s2 a2 w2 (hG.trans sw) rv gv;unfold wpOpIn;rw[ho];simp only[wpListIn]at a8⊢;split
 .rename_i hw
  rw[if_pos hw]at a8;exact q2m a8
 .rename_i hw
  rw[if_neg hw]at a8;exact a8
variable {d : Option Tmp} {T : TypeId} {p : String} {af : Array Edge}
theorem zdz{op:Op}{r:AV}(hnc:∀c,op≠.call c)(h:∀(G:Gh)(ρ:Operand->Value),(∀x,Rel G (qg N s x) (ρ x))->∃v,(∀w',(execOp ρ ⟨d,op,T,p,af,none⟩).run E.P w'=.ok (.value v) w')∧Rel G r v):AY E N ⟨d,op,T,p,af,none⟩ s r:=
 ⟨λB0 w0 G a w hI=>let ⟨v,h1,h2⟩:=h G a.eval hI.eval;⟨v,h1,λw'=>by unfold Oper.about;cases op<;>first|rfl|exact absurd rfl (hnc _),h2⟩⟩
theorem y4{x:Operand}:AY E N ⟨d,.move x,T,p,af,none⟩ s (qg N s x):=zdz nofun λG ρ hρ=>⟨ρ x,λw'=>by simp[execOp],hρ x⟩
theorem qvu{x:Operand}:AY E N ⟨d,.assign x,T,p,af,none⟩ s (qg N s x):=zdz nofun λG ρ hρ=>⟨ρ x,λw'=>by simp[execOp],hρ x⟩
end
theorem quv{E:Env}{rd:Option Nat}{N:Nat}{c:Code}{Q:Exit->AS->Prop}{s:AS}(I:AS->Prop)(h:AWp E rd N c (only I) s)(hk:∀s',I s'->Q .normal s'):AWp E rd N c Q s:=h.mono λe s' h=>by
 cases e<;>first|exact hk _ h|exact h.elim
end Go.Av
namespace Go.Proofs.YthnbabbhpeebbaaGreatDoor
open Go Go.Av Go.RowKit Go.Proofs Go.Pl
theorem qoi{l:qa}:qy l=4↔10∉l∧58∈l∧qd3 (kg l):=by
 unfold qy;by_cases p7:10∈l
 .simp[p7]
 .rw[if_neg p7]
  constructor
  .intro h
   split at h
   .simp at h
   .split at h
    .simp at h
    .split at h
     .simp at h
     .split at h
      .rename_i hk;exact⟨p7,hk.1,hk.2⟩
      .simp at h
  .rintro⟨_,h58,hk⟩
   obtain⟨c,hc,hb,h35⟩:=qkl hk
   have hh:l.head?=some c:=by
    cases l with
    |nil=>simp at h58
    |cons a r=>
     unfold kg at hc;rw[Zx]at hc;split at hc
     .simpa using hc
     .simp at hc
   have dq:c∈l:=Xd hh;rw[if_neg (λh'=>hb (h' c dq)),if_neg (by rw[hh];simpa using h35),if_neg (λ⟨d,hd,cn⟩=>by rw[hh]at hd;cases hd;exact hb cn),if_pos ⟨h58,hk⟩]
theorem q5u(l:qa)(st:List AObj)(hl:l.length<4294967281)(h:qy l=4):qm E 261 [Sv l] st λr st'=>r=.tu [Sv (kg l),Sv (yv l),Bv true]∧st'=st:=by
 refine ze (qht _ _ _) (qq Tryz.func261 rfl (Qd rfl) ?_);have hc:Lib.cut l [58]=(kg l,yv l,true):=by rw[qv2,if_pos (qoi.1 h).2.1]
 repeat' (first|apply qp|apply qi|apply qh|apply ql|apply qj|(apply zk;exact rfl;exact rfl)|(apply zh;(iterate 3 exact rfl))|(apply qe;exact rfl;apply yw;exact cAo)|apply za|apply q7|(apply qk;exact Tryz.call184;exact qlk _ _ hl)|(apply qk;exact Tryz.call146;exact qsx _ _ _ hl))
 refine qo rfl (qfw rfl) ⟨zir (?_:_=_),_,rfl⟩;rw[hc]
theorem q2k(l:qa)(st:List AObj)(hl:l.length<4294967281)(h:qy l≠4):qm E 261 [Sv l] st λr st'=>r=.tu [Sv [],Sv [],Bv false]∧st'=st:=by
 refine ze (qht _ _ _) (qq Tryz.func261 rfl (Qd rfl) ?_);repeat' (first|apply qp|apply qi|apply qh|apply ql|apply qj|(apply zh;(iterate 3 exact rfl))|(apply qe;exact rfl;apply y5;exact cAo)|apply q7|(apply qk;exact Tryz.call184;exact qlk _ _ hl))
 exact qo rfl (qfw rfl) ⟨rfl,_,rfl⟩
theorem zej{fn:Func}{s:AS}{t u:Tmp}{Ta:TypeId}{o1 v1 f1 sz1:Nat}{agg1:Bool}{T1:TypeId}{cs1:List AV}{r1:AV}(hr:fn.results= #[.cell t Ta,.tmp u])(sr:qg fn.ntmps s (.tmp t)=.bx o1 v1 f1)(ho1:s.st[o1]?=some (.cells v1 T1 cs1))(ht1:tyOf E.P Ta=some (sz1,agg1))(dp:jy sz1 agg1 f1 cs1=some r1):
  ARes E fn s (.tu [r1,qg fn.ntmps s (.tmp u)]):=by
 refine⟨λB0 w0 G a w hL hI=>?_⟩;obtain⟨b,v,h1,h2,h3⟩:=qg6 hI sr ho1 ht1 dp;have hu:=hI.rd u;refine⟨.tuple #[v,a.tmps.getD u undef],?_,qgr h3 hu⟩;simp only[Act.eval,Array.getD_eq_getD_getElem?]at h1;simp[results,hr,h1,asAddr,h2]
def qgz(ls:List qa):AV:=.tu [fldA (j8 ls).1,errN (j8 ls).2]
theorem q1m(ls:List qa):Pure (qgz ls):=qfl λx hx=>by
 simp only[Qq,Zd,or_false]at hx;rcases hx with rfl|rfl
 .exact qpo λx hx=>by
   simp only[Qq,Zd,or_false]at hx;rcases hx with rfl|rfl <;>exact qw _
 .exact qkg _
theorem qpz{fn:Func}{s:AS}{t u:Tmp}{Ta:TypeId}{st loc ext new:List AObj}{k1 v1 f1 sz1:Nat}{agg1:Bool}{T1:TypeId}{cs1:List AV}{r1:AV}(hr:fn.results= #[.cell t Ta,.tmp u])(hs:s.st=((st++loc)++ext)++new)(sr:qg fn.ntmps s (.tmp t)=.bx (st.length+k1) v1 f1)(ho1:loc[k1]?=some (.cells v1 T1 cs1))(ht1:tyOf E.P Ta=some (sz1,agg1))(dp:jy sz1 agg1 f1 cs1=some r1):
  ARes E fn s (.tu [r1,qg fn.ntmps s (.tmp u)]):=zej hr sr (by rw[hs];exact qc7 ho1) ht1 dp
structure LsB (ls:List qa):Prop where
 len:ls.length<1000000
 val:∀s∈ls,s.length<1000000
theorem q1d:∀(r:List qa),(∀s∈r,s.length<1000000)->(r.flatMap λs=>[10]++yq 46 (s.drop 1)).length<=1000001*r.length
 | [],_=>by simp
 |a::r,h=>by
  have ih:=q1d r λs hs=>h s (by simp[hs]);have ha:=h a Sx;have ht:(yq 46 (a.drop 1)).length<=a.length:=by unfold yq;split <;>simp <;>omega
  simp only[Qs,Qb,Qh,Qi];omega
theorem q8u(v:qa)(r:List qa):Lib.join (v::r.map λs=>yq 46 (s.drop 1)) [10]=v++r.flatMap λs=>[10]++yq 46 (s.drop 1):=by
 rw[Lib.join_cons];unfold Lib.joinTail;rw[Zn,List.flatMap_def];rfl
theorem q3t(xs:List qa)(tip:Option Nat)(sep v:qa)(st:List AObj)(h:Lib.join xs sep=v)(hN:xs.length<=140737488355328)(hl:v.length<=140737488355328):qm E 177 [.sl 1 (xs.map λx=>Sv x) tip,Sv sep] st λr st'=>r=Sv v∧st'=st:=by
 subst h;exact q8t xs tip sep st hN hl
theorem qu5{s:qa}(h:qy s=3):2<=s.length∧10∉s:=by
 have p7:10∉s:=λh'=>by unfold qy at h;rw[if_pos h']at h;simp at h
 refine⟨?_,p7⟩;unfold qy at h;rw[if_neg p7]at h;split at h
 .simp at h
 .rename_i hb
  split at h
  .simp at h
  .split at h
   .rename_i tg
    obtain⟨c,hc,hcb⟩:=tg
    match s,hc with
    | [a],hc=>
     simp at hc;subst hc
     exact absurd (by simpa using hcb) hb
    |a::b::r,_=>simp
   .split at h<;>simp at h
theorem qrg{α:Type}{P:α->Prop}{pre:List α}{a:α}(h:∀x∈pre,P x)(ha:P a):∀x∈pre++[a],P x:=λx hx=>by
 rcases Qx.1 hx with hx|hx
 .exact h x hx
 .simp at hx;subst hx;exact ha
end Go.Proofs.YthnbabbhpeebbaaGreatDoor
namespace Go.Pl
open Go Go.Proofs
structure LnV where
 no:Nat
 at':Nat
 text:qa
 ended : Bool
def x7(k a:Nat)(l:qa):List LnV:=if h:l=[]then []else⟨k,a,upto 10 l,decide (10∈l)⟩::x7 (k+1) (a+(upto 10 l).length+1) (past 10 l)
 termination_by l.length
 decreasing_by exact yn h
def lns(l:qa):List LnV:=x7 0 0 l
theorem qlm(k a:Nat):x7 k a []=[]:=by unfold x7;simp
theorem qjn{k a:Nat}{l:qa}(h:l≠[]):x7 k a l=⟨k,a,upto 10 l,decide (10∈l)⟩::x7 (k+1) (a+(upto 10 l).length+1) (past 10 l):=by
 conv=>lhs;unfold x7
 rw[dif_neg h]
def whole(l:qa):Prop:=l=[]∨l.getLast?=some 10
theorem qwo:∀(n:Nat)(l:qa)(k a:Nat),l.length<=n->(x7 k a l).length<=l.length
 |n,l,k,a,hn=>by
  by_cases h:l=[]
  .subst h;simp[qlm]
  .have e8:=yn (c:=10) h
   cases n with
   |zero=>omega
   |succ n=>
    rw[qjn h,Qh];have:=qwo n (past 10 l) (k+1) (a+(upto 10 l).length+1) Om;omega
def indF(by':qa)(ls:List (qa×Bool)):qa:=ls.flatMap λx=>by'++x.1++ym x.2
def qas(by' l:qa):qa:=indF by' (zv l)
theorem qzt(by':qa)(a b:List (qa×Bool)):indF by' (a++b)=indF by' a++indF by' b:=by simp[indF]
theorem qzu(by':qa)(x:qa×Bool):indF by' [x]=by'++x.1++ym x.2:=by simp[indF]
def lsum(ls:List (qa×Bool)):Nat:=(ls.map λx=>x.1.length+(ym x.2).length).sum
theorem qho:∀(n:Nat)(l:qa),l.length<=n->lsum (zv l)=l.length∧(zv l).length<=l.length
 |n,l,hn=>by
  by_cases h:l=[]
  .subst h;simp[wi,lsum]
  .have e8:=yn (c:=10) h
   cases n with
   |zero=>omega
   |succ n=>
    obtain⟨h1,h2⟩:=qho n (past 10 l) Om;rw[wr h];unfold lsum at h1⊢;simp only[Qv,Xm,Qh];rw[h1];have hp:=ku 10 l;have hu:=vd 10 l;by_cases p7:10∈l
    .have:=qei p7
     simp[p7,ym];omega
    .have hu2:(upto 10 l).length=l.length:=by rw[qfc p7]
     have pt:=Qw.2 h;simp[p7,ym];omega
theorem qrb(by':qa):∀(ls:List (qa×Bool)),(indF by' ls).length=lsum ls+by'.length*ls.length
 | []=>by simp[indF,lsum]
 |x::r=>by
  have ih:=qrb by' r;simp only[indF,lsum,Qs,Qb,Qv,Xm,Qh]at ih⊢;rw[ih,Nat.mul_add];omega
theorem zcf(a b:List (qa×Bool)):lsum (a++b)=lsum a+lsum b:=by simp[lsum]
end Go.Pl
namespace Go.Proofs.YthnbabbhpeebbaaGreatDoor
open Go Go.Av Go.RowKit Go.Proofs Go.Pl
theorem zab(text:List UInt8)(st loc:List AObj)(n:Nat)(hn:loc.length=n):qm E 143 [Sv text] (st++loc) λr st1=>r=.fn (.func 183) [] [.bx (st.length+n) 0 0]∧st1=st++(loc++[.cells 0 9 [Sv text]]):=
 qvi text (st++loc) _ (st.length+n) (by simp[hn]) (by rw[Qa])
theorem q8s(b sep:qa)(st:List AObj)(hl:b.length<=140737488355328):qm E 177 [.sl 1 [Sv b] none,Sv sep] st λr st'=>r=Sv b∧st'=st:=
 q3t [b] none sep b st (by simp[Lib.join,List.intercalate]) Sx hl
theorem zhv{st a b ext:List AObj}{m:Nat}(h:((st++a)++ext).length=m)(e:b.length=a.length):((st++b)++ext).length=m:=by
 simp only[Qb]at h⊢;omega
set_option maxHeartbeats 2000000 in
theorem zb8(text by':qa)(st:List AObj)(hl:text.length<100000000)(hb:by'.length<1000):qm E 132 [Sv text,.sl 1 [Sv by'] none] st λr st'=>r=Sv (qas by' text)∧st'=st:=by
 refine ze (qw _) (qq Tryz.func132 rfl (Qd rfl) ?_);obtain⟨hsum,hcnt⟩:=qho _ text (Qg _);repeat' (first|(apply qku;exact rfl)|apply qp|apply zm|apply qi|apply qh|apply ql|apply qj|(apply kj;exact rfl;exact rfl)|(apply jt;(iterate 11 exact rfl))|(apply qk;exact Tryz.call177;exact q8s _ _ _ Om)|(refine qk Tryz.call143 (zab _ _ _ _ rfl) ?_))
 refine quw (st:=st) text rfl rfl Om (λk rest l=>∃q don,(q=.v (.pointer none)∨q=.bx (st.length+0) 0 0)∧zv text=don++zv rest∧l=[bldO 0 q (indF by' don) (st.length+1),.tip (indF by' don).length 1 5,.cells 0 9 [Sv by'],.cells 0 9 [Sv text]]) (λ_ _=>False)
  ⟨_,[],.inl rfl,rfl,rfl⟩ (λk rest l ⟨q,don,_,_,e⟩=>by subst e;exact⟨rfl,rfl⟩) (λ_ _ h=>h.elim) ?_ ?_ (λ_ _ _ h=>h.elim)
 .rintro F own rd k rest _ ext m hF ⟨q,don,hq,hd,rfl⟩ d7 d8 hm1 rp
  have dq:zv rest=(upto 10 rest,decide (10∈rest))::zv (past 10 rest):=wr d7;have hu:=vd 10 rest;have b9:=qrb by' (don++[(upto 10 rest,decide (10∈rest))]);have he:zv text=(don++[(upto 10 rest,decide (10∈rest))])++zv (past 10 rest):=by rw[hd,dq];simp
  have hs2:lsum (don++[(upto 10 rest,decide (10∈rest))])+lsum (zv (past 10 rest))=text.length:=by rw[<-zcf,<-he];exact hsum
  have hc2:(don++[(upto 10 rest,decide (10∈rest))]).length+(zv (past 10 rest)).length<=text.length:=by rw[<-Qb,<-he];exact hcnt
  have hm:by'.length*(don++[(upto 10 rest,decide (10∈rest))]).length<=1000*100000000:=Nat.mul_le_mul Om Om;rw[qzt,qzu]at b9;simp only[Qb]at b9 hm hc2;repeat' (first|(apply q1q;exact rfl;assumption;exact rfl)|(apply qbc;exact rfl;assumption;(iterate 10 exact rfl))|apply qi|apply qh)
  refine⟨_,rfl,rfl,?_⟩;repeat' (first|apply qp|apply zm|apply qi|apply qh|(apply qe;exact rfl;apply cd_d<;>intro h)|(apply vb;exact rfl;exact rfl;exact cOs)|(apply zr;(iterate 3 exact rfl))|(apply qh1;(iterate 5 exact rfl))|apply za|(apply qb6;exact rfl;exact zhv rp rfl;(iterate 4 exact rfl))|(refine qk Tryz.call130 (ql3 st _ _ _ _ 0 1 0 _ _ _ rfl rfl ?_ ?_ rfl) ?_;(first|exact hq|exact .inr rfl);(simp only[Qb,Qh,Qi];omega)))
  all_goals
   have hx:indF by' (don++[(upto 10 rest,decide (10∈rest))])=(indF by' don++(by'++upto 10 rest))++ym (decide (10∈rest)):=by
    rw[qzt,qzu];simp
   refine⟨[bldO 0 (.bx (st.length+0) 0 0) (indF by' (don++[(upto 10 rest,decide (10∈rest))])) (st.length+1),.tip (indF by' (don++[(upto 10 rest,decide (10∈rest))])).length 1 5,.cells 0 9 [Sv by'],.cells 0 9 [Sv text]],ext,[.cells 0 221 (qd5 k text rest).cells],?_,_,_,.inr rfl,he,rfl⟩
  .have p7:10∈rest:=by simp_all
   rw[hx,show ym (decide (10∈rest))=[10]by simp[p7,ym]];rfl
  .have p7:10∉rest:=by simp_all
   have hx2:indF by' (don++[(upto 10 rest,decide (10∈rest))])=indF by' don++(by'++upto 10 rest):=by
    rw[hx];simp[p7,ym]
   rw[hx2];rfl
 .rintro k _ ext ⟨q,don,hq,hd,rfl⟩
  repeat' (first|apply qp|apply qi|apply qh|apply qj|apply q7|(refine qk Tryz.call133 (qkx st _ _ _ _ 0 1 0 _ _ rfl rfl rfl) ?_))
  refine qxk (k:=4) rfl rfl rfl (qo rfl (zt rfl) ⟨congrArg (λl:qa=>Sv l) (?_:_=qas by' text),qgj _ _ _ _⟩);rw[wi,Qy]at hd;unfold qas;rw[hd]
end Go.Proofs.YthnbabbhpeebbaaGreatDoor
namespace Go.Pl
open Go Go.Proofs
def q58(x:LnV):qa×Bool:=(x.text,x.ended)
end Go.Pl
namespace Go.Av
open Go Go.RowKit
def TipC(b:Nat)(st:List AObj)(sz:Nat)(T:TypeId)(xs:List AV)(c:AV):Prop:=(xs=[]∧c=zf)∨∃t,c=.sl sz xs (some t)∧st[t]?=some (.tip xs.length sz T)∧b<=t
structure Fr (st st':List AObj) (t:Nat):Prop where
 len:st.length<=st'.length
 same:∀k,k≠t->k<st.length->st'[k]?=st[k]?
theorem zdr(b:Nat)(st:List AObj)(sz:Nat)(T:TypeId):TipC b st sz T [] zf:=.inl ⟨rfl,rfl⟩
theorem qjz{b:Nat}{st l:List AObj}{sz:Nat}{T:TypeId}{xs:List AV}{c:AV}(h:TipC b st sz T xs c):TipC b (st++l) sz T xs c:=by
 rcases h with h|⟨t,h1,h2,h3⟩
 .exact .inl h
 .exact .inr ⟨t,h1,by rw[Qc (lt_of_getElem? h2)];exact h2,h3⟩
section
variable {E : Env} {rd : Option Nat} {N : Nat} {ops : Array Oper} {K : AS → Prop} {s : AS} {rest : List Oper} {d : Option Tmp} {T : TypeId} {p : String} {af : Array Edge}
theorem qyc{x y:Operand}{t u T':TypeId}{sz bytes b:Nat}{xs ys:List AV}{tip:Option Nat}{c:AV}{st:List AObj}(d9:s.st=st)(hx:qg N s x=c)(hc:TipC b st sz T' xs c)(hb:b<=st.length)(hy:qg N s y=.sl sz ys tip)
  (ht:E.P.underlying t=some (.slice T')) (hu:E.P.underlying u=some (.slice T')) (hT:yr E.P T' sz bytes) (p6:va (flat ys)=true) (cj:xs.length+ys.length<=maxLen) (hby:(xs.length+ys.length)*bytes<=140737488355328)
  (h:∀t1 st',st'[t1]?=some (.tip (xs++ys).length sz T')->b<=t1->Fr st st' t1->(c=.sl sz xs (some t1)∨st.length<=t1)->AOps E rd N ops rest K (AS.put ⟨s.t,st',s.df⟩ d (.sl sz (xs++ys) (some t1)))):AOps E rd N ops (⟨d,.call ⟨.builtin .append,#[x,y],#[t,u]⟩,T,p,af,none⟩::rest) K s:=by
 subst d9;refine qv rfl (qu nofun λB0 w0 G a w _ hI=>?_);rcases hc with⟨rf,hcn⟩|⟨t1,h1,h2,h3⟩
 .subst rf
  have d8:=G.le_new 0 0 0 false;have hA:=hI.agree.newTip sz T';have hv:a.eval x=.slice none 0 0:=hI.evalv (hx.trans hcn);have hn:=hI.agree.n;obtain⟨news,k1,k2,k3⟩:=y3 (P:=E.P) hA ((hI.eval_of hy).mono d8) (by simpa[va]using p6)
  have hr:Rel (G.new 0 0 0 false) (.sl sz [] (some s.st.length)) (a.eval x):=by
   rw[hv];exact .sl0 sz _ none 0 λt ht=>by simp only[Zb]at ht;subst ht;exact⟨by simp[Gh.new,hn],rfl,rfl⟩
  obtain⟨v',w',G',e1,e2,e3,e4⟩:=qb5 (ty:=T) hA ht hu (.inr ⟨_,rfl⟩) hT (t:=s.st.length) (n:=0) Sx hr rfl rfl k1 k2 k3 (by simpa using cj) (by simpa using hby);refine⟨v',w',G',_,_,?_,d8.trans e2,e3,e4,h s.st.length _ ?_ hb ⟨Sx,λk hk e8=>?_⟩ (.inr (Qg _))⟩
  .generalize a.eval=ρ at e1
   simp[execOp,resolve,invoke,builtin,e1]
  .simp
  .rw[Qp (Ne.symm hk),Qc e8]
 .obtain⟨news,k1,k2,k3⟩:=y3 (P:=E.P) hI.agree (hI.eval_of hy) (by simpa[va]using p6)
  obtain⟨v',w',G',e1,e2,e3,e4⟩:=qb5 (ty:=T) hI.agree ht hu (.inr ⟨_,rfl⟩) hT h2 (hI.eval_of (hx.trans h1)) rfl rfl k1 k2 k3 cj hby;refine⟨v',w',G',_,_,?_,e2,e3,e4,h t1 _ ?_ h3 ⟨Sx,λk hk e8=>?_⟩ (.inl h1)⟩
  .generalize a.eval=ρ at e1
   simp[execOp,resolve,invoke,builtin,e1]
  .rw[Qb]
   exact ke h2
  .rw[Qp (Ne.symm hk)]
theorem qnp{t:TypeId}{x:Operand}{r:AV}{cs:List AV}(hx:qg N s x=r)(hok:r.okc=true)(hc:r.cells=cs)
  (h:AOps E rd N ops rest K (s.put d (.pp cs))):AOps E rd N ops (⟨d,.box t x,T,p,af,none⟩::rest) K s:=by
 refine qv rfl (qu nofun λB0 w0 G a w _ hI=>?_);have hr:=(hI.eval_of hx).cells hok;rw[hc]at hr;obtain⟨d8,hA⟩:=hI.agree.newPub t (a.eval x).cells (0,0) (a.eval x).cells.toList (λi y hy=>by simpa using hy)
 have a8:(execOp a.eval ⟨d,.box t x,T,p,af,none⟩).run E.P w=.ok (.value (.pointer (some ⟨w.heap.size,0,none⟩))) (w.alloc (.cells (a.eval x).cells t)):=by
  generalize a.eval=ρ;simp[execOp,Instr.box,newVar,newRow,newObj,Sem.run]
 refine⟨_,_,_,.pp cs,s.st,a8,d8,hA,.pp cs w.heap.size 0 (a.eval x).cells.toList (by simp[Gh.publish]) (by rw[hr.1];simp) λi x y hx hy=>(hr.2 i x y hx (by simpa using hy)).mono d8,h⟩
end
theorem qpt{E:Env}{f:FuncId}{x x':AV}{us:List AV}{st:List AObj}{R:AV->List AObj->Prop}(hw:∀G v,Rel G x v->Rel G x' v)(h:qm E f (x'::us) st R):qm E f (x::us) st R:=
 ⟨λB0 w0 G vals w hL hA hR=>h.run B0 w0 G vals w hL hA ⟨by have:=hR.1;simpa using this,λi a b ha hb=>by
  cases i with
  |zero=>simp at ha;subst ha;exact hw G b (hR.2 0 x b rfl hb)
  |succ i=>exact hR.2 (i+1) a b (by simpa using ha) hb⟩⟩
theorem qay{st l:List AObj}{o:Nat}{x:AObj}(h:st[o]?=some x):(st++l)[o]?=some x:=by
 rw[Qc (lt_of_getElem? h)];exact h
theorem we{st:List AObj}{x:AObj}:(st++[x])[st.length]?=some x:=Sx
section
variable {E : Env} {rd : Option Nat} {N : Nat} {ops : Array Oper} {K : AS → Prop} {s : AS} {rest : List Oper} {d : Option Tmp} {T : TypeId} {p : String} {af : Array Edge}
theorem qkv{t:TypeId}{st:List AObj}{cs:List AV}(d9:s.st=st)(hz:qi0 E.P t=some cs)
  (h:AOps E rd N ops rest K (AS.put ⟨s.t,st++[.cells 0 t cs],s.df⟩ d (.bx st.length 0 0))):AOps E rd N ops (⟨d,.alloc t,T,p,af,none⟩::rest) K s:=
 kj (loc:=[]) (by rw[d9];simp) hz h
theorem qvr{t:TypeId}{x:Operand}{st:List AObj}{r:AV}{cs:List AV}(d9:s.st=st)(hx:qg N s x=r)(hok:r.okc=true)(hc:r.cells=cs)
  (h:AOps E rd N ops rest K (AS.put ⟨s.t,st++[.cells 0 t cs],s.df⟩ d (.bx st.length 0 0))):AOps E rd N ops (⟨d,.box t x,T,p,af,none⟩::rest) K s:=
 qch (loc:=[]) (by rw[d9];simp) hx hok hc h
end
theorem qme{st st':List AObj}(hl:st.length<=st'.length)(h:∀k,k<st.length->st'[k]?=st[k]?):∃ext,st'=st++ext:=by
 refine⟨st'.drop st.length,?_⟩;apply Zi;intro k;by_cases hk:k<st.length
 .rw[h k hk,Qc hk]
 .rw[Qf Om,Za]
  congr 1;omega
end Go.Av
namespace Go.Proofs.YthnbabbhpeebbaaGreatDoor
open Go Go.Av Go.RowKit Go.Proofs
def qjp(x:Option AObj):Prop:=∀n sz T,x≠some (.tip n sz T)
theorem y0{ver:Nat}{T:TypeId}{cs:List AV}{x:Option AObj}(h:x=some (.cells ver T cs)):qjp x:=λn sz T' e=>by
 rw[h]at e;simp at e
end Go.Proofs.YthnbabbhpeebbaaGreatDoor
namespace Go.Proofs.YthnbabbhpeebbaaGreatDoor
open Go Go.Av Go.RowKit Go.Proofs Go.Pl
structure Ext (n:Nat) (S S':List AObj):Prop where
 len:S.length<=S'.length
 low:∀k,k<n->S'[k]?=S[k]?
 tips:∀(t m sz:Nat)(T:TypeId),S[t]?=some (AObj.tip m sz T)->S'[t]?=S[t]?
theorem q3n{n:Nat}{S l:List AObj}(h:n<=S.length):Ext n S (S++l):=⟨Sx,λk hk=>Qc Om,λt m sz T ht=>Qc (lt_of_getElem? ht)⟩
theorem qd0{n o:Nat}{S:List AObj}{x:AObj}(h:n<=o)(hn:qjp S[o]?):Ext n S (S.set o x):=⟨Sx,λk hk=>Qp Om,λt m sz T ht=>Qp (λe=>by subst e;exact hn _ _ _ ht)⟩
theorem Ext.weak{n m:Nat}{S S':List AObj}(h:Ext n S S')(hm:m<=n):Ext m S S':=⟨h.len,λk hk=>h.low k Om,h.tips⟩
theorem Ext.trans{n:Nat}{S S' S'':List AObj}(h:Ext n S S')(k:Ext n S' S''):Ext n S S'':=⟨Nat.le_trans h.len k.len,λi hi=>(k.low i hi).trans (h.low i hi),λt m sz T ht=>(k.tips t m sz T ((h.tips t m sz T ht).trans ht)).trans (h.tips t m sz T ht)⟩
theorem zaa(text:List UInt8)(o kb ver n m:Nat)(I:Nat->List UInt8->List AObj->Prop)(D:List AObj->Prop)(S:List AObj)(hm:S.length=m)(hn:n<=m)(ht:text.length<4294967281)(h0:I 0 text S)
  (hI:∀k rest S',I k rest S'->S'[kb]?=some (.cells ver 9 [Sv text]))
  (d9:∀k rest S' S'',Ext n S' S''->I k rest S'->I k rest S'')
  (hY:∀k rest S' cs,I k rest S'->S'[m]?=some (.cells 0 221 cs)->rest≠[]->rest.length<=text.length->qaf E o [qd5 k text rest] S' λb S''=>S''[m]?=some (.cells 0 221 cs)∧(b=true->I (k+1) (past 10 rest) S'')∧(b=false->D S'')):
  qm E 183 [.yd o,.bx kb ver 0] S λr S'=>(∃k,I k [] S')∨D S':=by
 subst hm;refine qq Tryz.func183 rfl (Qd rfl) ?_;have hb:=hI 0 text S h0;repeat' (first|apply qp|apply zm|apply qi|apply qh|apply qj|(apply kj;exact rfl;exact rfl)|(apply jt;(iterate 11 exact rfl))|(apply yc;(iterate 3 exact rfl))|(apply qcw;exact rfl;exact rfl;exact hb;exact rfl;exact rfl))
 refine xy (λ(x:Nat×List UInt8)s=>match x with|(k,rest)=>∃S' at' ta eb,I k rest S'∧k+rest.length<=text.length∧at'=(text.length:Int)-rest.length∧S'[S.length]?=some (.cells 0 221 [Iv k,Iv at',Sv ta,Bv eb])∧StA [(0,.yd o),(1,.bx kb ver 0),(3,.bx S.length 0 0),(4,Sv rest)] S' [] s) (λx=>x.2.length) (0,text)
  ⟨_,0,[],false,d9 _ _ _ _ (q3n hn) h0,Sx,Sx,jl (k:=0) rfl,xp ⟨rfl,rfl,rfl,rfl,trivial⟩⟩ ?_
 rintro⟨k,rest⟩ _ ⟨S',_,ta,eb,hi,d8,rfl,hown,t,rfl⟩;have lx:=hI k rest S' hi;repeat' (first|apply qp|apply zm|apply qi|apply qh|apply ql|apply qj|(apply zk;exact rfl;exact rfl)|(apply j5;(iterate 3 exact rfl))|(apply qe;exact rfl;apply cd_d<;>intro h)|(apply zr;(iterate 3 exact rfl))|apply za|apply wd|(apply qk;exact Tryz.call146;exact qi9 _ _ _ Om)|(apply kh;exact rfl;(focus first|assumption|(repeat' (first|assumption|exact we|exact jl rfl|apply ke|apply kq|omega|apply qay)));exact rfl;exact rfl)|(apply yo;exact rfl;exact rfl;(focus first|assumption|(repeat' (first|assumption|exact we|exact jl rfl|apply ke|apply kq|omega|apply qay)));(iterate 6 exact rfl)))
 .have e1:Ext n S' ((S'.set S.length (.cells 0 221 [Iv k,Iv ((text.length:Int)-rest.length),Sv (upto 10 rest),Bv eb])).set S.length (.cells 0 221 [Iv k,Iv ((text.length:Int)-rest.length),Sv (upto 10 rest),Bv (decide (10∈rest))])):=
   (qd0 hn (y0 hown)).trans (qd0 hn (y0 (ke hown)))
  apply qgb (o:=o) rfl;refine qaf.mono (hY k rest _ _ (d9 _ _ _ _ e1 hi) (ke (ke hown)) h Om) ?_;rintro b S2 ⟨hown2,h1,h2⟩
  show AOps _ _ _ _ _ _ _
  cases b
  .skip
   repeat' (first|apply qh|(apply j6;exact rfl)|(apply qe;exact rfl;apply qpc;exact cRa)|apply q7)
   exact qo rfl (qbe rfl) (.inr (h2 rfl))
  .have hi3:=h1 rfl
   have td:=hI _ _ _ hi3;have hp:=ku 10 rest;have hr0:0<rest.length:=Qw.2 h
   have hkb:kb≠S.length:=λe=>by
    rw[e,hown2]at td;simp at td
   repeat' (first|apply qp|apply qi|apply qh|apply ql|(apply j6;exact rfl)|(apply qe;exact rfl;apply qsu;exact cRa)|(apply wm;(iterate 3 exact rfl))|(apply jw;exact rfl;exact rfl;exact zu Om Om)|(apply qcj;exact rfl;exact rfl;exact zu Om Om)|(apply zr;(iterate 3 exact rfl))|apply za|(apply kh;exact rfl;exact kq td (Ne.symm hkb);exact rfl;exact rfl)|(apply kh;exact rfl;(focus first|assumption|(repeat' (first|assumption|exact we|exact jl rfl|apply ke|apply kq|omega|apply qay)));exact rfl;exact rfl)|(apply yo;exact rfl;exact rfl;(focus first|assumption|(repeat' (first|assumption|exact we|exact jl rfl|apply ke|apply kq|omega|apply qay)));(iterate 6 exact rfl)))
   have e2:Ext n S2 _:=(qd0 hn (y0 hown2)).trans (qd0 (x:=.cells 0 221 [Iv ((k:Int)+1),Iv ((text.length:Int)-(past 10 rest).length),Sv (upto 10 rest),Bv (decide (10∈rest))]) hn (y0 (ke (y:=.cells 0 221 [Iv ((k:Int)+1),Iv ((text.length:Int)-rest.length),Sv (upto 10 rest),Bv (decide (10∈rest))]) hown2)));exact⟨(k+1,past 10 rest),⟨_,_,_,_,d9 _ _ _ _ e2 hi3,Om,rfl,ke (ke hown2),xp ⟨rfl,rfl,rfl,rfl,trivial⟩⟩,by simp only;omega⟩
 .have hr:rest=[]:=Classical.not_not.1 h
  subst hr;exact qo rfl (qbe rfl) (.inl ⟨k,hi⟩)
structure ItC (g:FuncId) (T:TypeId) (cs:List AV) {ι:Type} (Y:ι->Option (AV×ι)) (i0:ι):Prop where
 run:∀(o kb n m:Nat)(I:ι->List AObj->Prop)(D:List AObj->Prop)(S:List AObj),S.length=m->n<=m->I i0 S->
  (∀i S',I i S'->S'[kb]?=some (.cells 0 T cs))->(∀i S' S'',Ext n S' S''->I i S'->I i S'')->
  (∀i x j S'(own:List AObj),I i S'->(∀k y,own[k]?=some y->S'[m+k]?=some y∧qjp (some y))->Y i=some (x,j)->qaf E o [x] S' λb S''=>(∀k y,own[k]?=some y->S''[m+k]?=some y)∧(b=true->I j S'')∧(b=false->D S''))->
  qm E g [.yd o,.bx kb 0 0] S λr S'=>(∃i,Y i=none∧I i S')∨D S'
def qoz(text:List UInt8):Nat×List UInt8->Option (AV×(Nat×List UInt8))
 |(k,rest)=>if rest=[]∨text.length<rest.length then none else some (qd5 k text rest,(k+1,past 10 rest))
theorem zdj(text:List UInt8)(ht:text.length<4294967281):ItC 183 9 [Sv text] (qoz text) (0,text):=⟨λo kb n m I D S hm hn h0 hI d9 hY=>by
 refine(zaa text o kb 0 n m (λk rest S=>I (k,rest) S∧rest.length<=text.length) D S hm hn ht ⟨h0,Qg _⟩ (λk rest S' h=>hI _ _ h.1) (λk rest S' S'' hE h=>⟨d9 _ _ _ hE h.1,h.2⟩) (λk rest S' cs hi hown d7 d8=>?_)).mono ?_
 .refine(hY (k,rest) (qd5 k text rest) (k+1,past 10 rest) S' [.cells 0 221 cs] hi.1 (λj y hy=>?_) (if_neg λh=>h.elim d7 Om)).mono λb S'' ⟨h1,h2,h3⟩=>⟨by have:=h1 0 _ rfl;simpa using this,λhb=>⟨h2 hb,by have:=ku 10 rest;omega⟩,h3⟩
  match j with
  |0=>
   simp only[List.getElem?_cons_zero,Zb]at hy;subst hy
   exact⟨hown,y0 rfl⟩
  |j+1=>simp at hy
 .rintro r S' (⟨k,h⟩|h)
  .exact .inl ⟨(k,[]),by simp[qoz],h.1⟩
  .exact .inr h⟩
@[reducible] def zih (n : Nat) (F : LoopState → Option Code → AObj) (own : List AObj) (I : List AObj → Prop) (D : Code → List AObj → Prop) : Exit → AS → Prop
 |.normal,s=>s.st[n]?=some .dfr∧s.st[n+1]?=some (F .busy none)∧(∀k y,own[k]?=some y->s.st[n+2+k]?=some y)∧I s.st
 |.ret,s=>s.st[n]?=some .dfr∧s.st[n+1]?=some (F .busy none)∧(∀k y,own[k]?=some y->s.st[n+2+k]?=some y)∧D .ret s.st
 |.exit id,s=>s.st[n]?=some .dfr∧s.st[n+1]?=some (F .busy none)∧(∀k y,own[k]?=some y->s.st[n+2+k]?=some y)∧D (.exit id) s.st
 |_,_=>False
theorem qjq{N:Nat}{t:Nat->AV}{ps:Array Tmp}{asg body:Code}{F:LoopState->Option Code->AObj}(hF:qlu F N t ps asg body)(ls:LoopState)(pend:Option Code){x:Option AObj}(h:x=some (F ls pend)):qjp x:=λn sz T' e=>by
 rw[h,hF]at e;simp at e
theorem qyo{N:Nat}{Q:Exit->AS->Prop}{s:AS}{f:Operand}{p:Tmp}{asg body:Code}{S0:List AObj}{kb:Nat}{g:FuncId}{T:TypeId}{cs:List AV}{ι:Type}{Y:ι->Option (AV×ι)}{i0:ι}(hit:ItC g T cs Y i0)(d9:s.st=S0)(hx:qg N s f=.fn (.func g) [] [.bx kb 0 0])
  (a8:∀vs w,(callFunc g vs).run E.P w=.ok (.enter g vs) w)
  (I:ι->List AObj->Prop) (D:Code->List AObj->Prop) (h0:I i0 S0)
  (hI:∀i S,I i S->S[kb]?=some (.cells 0 T cs))
  (hs1:∀i S S',Ext S0.length S S'->I i S->I i S') (hs2:∀c S S',Ext S0.length S S'->D c S->D c S')
  (hb:∀F(own:List AObj)rd i x j S,qlu F N s.t #[p] asg body->I i S->Y i=some (x,j)->S[S0.length]?=some .dfr->S[S0.length+1]?=some (F .ready none)->(∀k y,own[k]?=some y->S[S0.length+2+k]?=some y∧qjp (some y))->
   AWp E (some rd) N asg (only λs1=>s1.st[S0.length+1]?=some (F .ready none)∧s1.df=[]∧AWp E (some rd) N body (zih S0.length F own (I j) D) ⟨s1.t,s1.st.set (S0.length+1) (F .busy none),[]⟩) ⟨put s.t p x,S,[]⟩)
  (hn:∀i S,Y i=none->I i S->S[S0.length]?=some .dfr->Q .normal ⟨s.t,S,S0.length::s.df⟩)
  (hd:∀c S,D c S->S[S0.length]?=some .dfr->AWp E none N c Q ⟨s.t,S,S0.length::s.df⟩):AWp E none N (.rangeFunc f #[p] asg body) Q s:=by
 refine ql2 (st:=S0) (loc:=[]) (by rw[d9];simp) hx a8 λF hF=>?_;have hl:(S0++([]++[AObj.dfr,F .ready none])).length=S0.length+2:=Sx
 have g1:(S0++([]++[AObj.dfr,F .ready none]))[S0.length]?=some .dfr:=Sx
 have g2:(S0++([]++[AObj.dfr,F .ready none]))[S0.length+1]?=some (F .ready none):=Sx
 have hz:S0.length+(([]:List AObj).length+1)=S0.length+1:=Sx
 rw[hz,show S0.length+([]:List AObj).length=S0.length from rfl];refine qm.mono (hit.run (S0.length+1) kb (S0.length+2) (S0.length+2) (λi S=>I i S∧S[S0.length]?=some .dfr∧S[S0.length+1]?=some (F .ready none)) (λS=>∃c,D c S∧S[S0.length]?=some .dfr∧S[S0.length+1]?=some (F .done (some c))) (S0++([]++[.dfr,F .ready none])) hl (Qg _) ⟨hs1 _ _ _ (q3n (Qg _)) h0,g1,g2⟩ (λi S h=>hI i S h.1) (λi S S' hE h=>⟨hs1 _ _ _ (hE.weak Om) h.1,(hE.low _ Om).trans h.2.1,(hE.low _ Om).trans h.2.2⟩) ?_) ?_
 .rintro i x j S' own ⟨hi,o0,hf1⟩ hown hy
  refine qqy hF hf1 rfl λrd=>?_;refine(hb F own rd i x j S' hF hi hy o0 hf1 hown).mono λe s1 hq=>?_;have fin:∀{S:List AObj}{z:AObj},(∀k y,own[k]?=some y->S[S0.length+2+k]?=some y)->∀k y,own[k]?=some y->(S.set (S0.length+1) z)[S0.length+2+k]?=some y:=λh k y hk=>kq (h k y hk) Om
  cases e with
  |normal=>
   obtain⟨q1,q2,q3⟩:=hq;refine⟨q1,q2,q3.mono λe s2 bw=>?_⟩
   cases e with
   |normal=>
    obtain⟨k1,k2,k3,k4⟩:=bw
    exact⟨k2,fin k3,λ_=>⟨hs1 _ _ _ (qd0 Om (qjq hF _ _ k2)) k4,kq k1 Om,ke k2⟩,nofun⟩
   |ret=>
    obtain⟨k1,k2,k3,k4⟩:=bw
    exact⟨k2,fin k3,nofun,λ_=>⟨_,hs2 _ _ _ (qd0 Om (qjq hF _ _ k2)) k4,kq k1 Om,ke k2⟩⟩
   |exit id=>
    obtain⟨k1,k2,k3,k4⟩:=bw
    exact⟨k2,fin k3,nofun,λ_=>⟨_,hs2 _ _ _ (qd0 Om (qjq hF _ _ k2)) k4,kq k1 Om,ke k2⟩⟩
   |_=>exact bw.elim
  |_=>exact hq.elim
 .rintro r S' (⟨i,hy,hi,o0,hf1⟩|⟨c,hi,o0,hf1⟩)
  .exact⟨.ready,none,nofun,hf1,hn i _ hy (hs1 _ _ _ (qd0 Om (qjq hF _ _ hf1)) hi) (kq o0 Om)⟩
  .exact⟨.done,some c,nofun,hf1,hd c _ (hs2 _ _ _ (qd0 Om (qjq hF _ _ hf1)) hi) (kq o0 Om)⟩
end Go.Proofs.YthnbabbhpeebbaaGreatDoor
