/- Contracts and plain facts that the closing text leans on (part 3). No condition of their own beyond those that each states. -/
import Derived.Test.YtihlchbgjdkmpaaGreatDoorK2
import Derived.Lib.SplitLaws
import Derived.Shelf.Strings.SplitShaped
import Derived.Deep.Slices
import Derived.Deep.Fields
import Derived.WideKeyArgs
import Derived.Lib.ItoaLen
set_option maxRecDepth 100000
set_option linter.unusedVariables false
set_option linter.unusedSimpArgs false
namespace Go.Proofs.YtihlchbgjdkmpaaGreatDoor
open Go Go.Pl
theorem zf6 {l:qa} (h1:10∈l→(zz (upto 10 l)).2.2=false) (h2:10∉l→qd3 l=false):zt l=(3,[],0):=by
 unfold zt;by_cases h:10∈l
 ·rw [if_pos h,if_neg (by rw [h1 h];simp)]
 ·rw [if_neg h,if_neg (by rw [h2 h];simp)]
theorem R2 {l:qa} (hl:l.length≤7) (h:¬ l <+: zu):zt l=(3,[],0):=by
 refine zf6 (fun i3=>decide_eq_false fun h'=>?_) (fun i3=>?_)
 ·have:=h'.1.length_le
  have:=qdo i3;have e:zu.length=7:=rfl;omega
 ·unfold qd3
  by_cases hb:zu <+: l
  ·have:=hb.eq_of_length_le hl
   exact absurd (this▸List.prefix_refl _) h
  ·rw [if_neg hb];exact decide_eq_false h
theorem ze2 {p:UInt8→Bool} (s:qa):s.take (s.takeWhile p).length=s.takeWhile p:=by
 induction s with
 |nil=>rfl
 |cons b s ih=>
  by_cases h:p b=true
  ·rw [List.takeWhile_cons_of_pos h];simp [ih]
  ·rw [List.takeWhile_cons_of_neg h];rfl
theorem zgn {p:UInt8→Bool} {l m:qa} (hm:m <+: l) (h:∀ c∈m,p c=true):m.length≤(l.takeWhile p).length:=by
 obtain⟨r,rfl⟩:=hm;rw [List.takeWhile_append_of_pos h];simp
end Go.Proofs.YtihlchbgjdkmpaaGreatDoor
namespace Go.Proofs.YtihlchbgjdkmpaaGreatDoor
open Go Go.Av Go.RowKit Go.Proofs Go.Pl
structure zcj (l S:qa) (K n:Nat):Prop where
 hl:l=zu++S
 hK:(S.takeWhile qsb).length=K
 hD:S.take K=Lib.itoa (n:Int)
 h1:1≤n
 h2:n≤50000
theorem zcj.split {l S:qa} {K n:Nat} (A:zcj l S K n) (h:K<S.length):S=Lib.itoa (n:Int)++S.getD K 0::S.drop (K+1)∧qsb (S.getD K 0)=false:=by
 have e:S=S.take K++S.getD K 0::S.drop (K+1):=by
  conv=>lhs;rw [← List.take_append_drop K S]
  rw [List.drop_eq_getElem_cons h];congr 2;simp [List.getD,h]
 refine⟨by rw [← A.hD];exact e,?_⟩
 cases hc:qsb (S.getD K 0) with
 |false=>rfl
 |true=>
  have hp:S.take (K+1) <+: S:=List.take_prefix _ _
  have:=zgn (p:=qsb) hp (fun c mz=>by
   rw [qjl h,List.mem_append,List.mem_singleton] at mz;rcases mz with mz|rfl
   ·rw [← A.hK,ze2] at mz
    have ha:=List.all_takeWhile (p:=qsb) (l:=S);rw [List.all_eq_true] at ha;exact ha c mz
   ·exact hc)
  rw [A.hK] at this;simp at this;omega
theorem q8l (l:List UInt8) (st:List AObj) (hl:l.length<4294967281) (hg:yv l):qn E 61 [Sv l] st fun r st'=>r = .tu [Sv (recF l),.v .nilIface]∧st'=st:=by
 have h:=zbt l st hl;unfold qek at h;rw [if_pos hg] at h;exact h
theorem q5c {b:List UInt8} (h:yv b):(recF b).length≤b.length+61∧1≤(recF b).length:=by
 have h1:=qia b.length (by have:=h.2.1;omega);unfold recF;simp only [List.length_append,qez,qf7,qe9];omega
end Go.Proofs.YtihlchbgjdkmpaaGreatDoor
namespace Go.Av
open Go Go.RowKit
def StE (L:List (Nat×AV)) (st loc:List AObj) (s:AS):Prop:=∃ t ext,s=⟨puts t L,((st++loc)++ext)++[],[]⟩
theorem qe8 {t:Nat→AV} {L:List (Nat×AV)} {st loc loc' ext new:List AObj} (h:HasL t L) (e:loc'=loc):StE L st loc ⟨t,((st++loc')++ext)++new,[]⟩:=
 ⟨t,ext++new,by rw [qhp h,e];simp⟩
theorem qhs {t:Nat→AV} {L:List (Nat×AV)} {st loc st':List AObj} (h:HasL t L) (e:st'=st++loc):StE L st loc ⟨t,st',[]⟩:=
 ⟨t,[],by rw [qhp h,e];simp⟩
theorem qcg (st loc ext new:List AObj):∃ x,((st++loc)++ext)++new=st++x:=⟨loc++ext++new,by simp⟩
theorem qch {st loc ext new:List AObj} {k:Nat} {x:AObj} (h:loc[k]? = some x):(((st++loc)++ext)++new)[st.length+k]? = some x:=by
 have hk:=lt_of_getElem? h;rw [List.append_assoc,List.append_assoc,List.getElem?_append_right (Nat.le_add_right _ _),Nat.add_sub_cancel_left,List.getElem?_append_left hk];exact h
theorem qhr {st loc ext new:List AObj} {k:Nat} (x:AObj) (hk:k<loc.length):(((st++loc)++ext)++new).set (st.length+k) x=((st++loc.set k x)++ext)++new:=by
 rw [List.append_assoc,List.append_assoc,List.set_append_right _ _ (Nat.le_add_right _ _),Nat.add_sub_cancel_left,List.set_append_left _ _ hk];simp
theorem qns {G:Gh} {sz:Nat} {xs:List AV} {tip:Option Nat} {v:Value} (h:Rel G (.sl sz xs tip) v):Rel G (.sl sz xs none) v:=by
 cases h with
 |sl0 _ _ base cap ht=>exact .sl0 sz none base cap (by simp)
 |sl _ _ _ b off cap pub hp hw d5 hr ht m9=>exact .sl sz xs none b off cap pub hp hw d5 hr (fun t ht=>by simp at ht) m9
theorem qbt {G:Gh} {sz:Nat} {v:Value} (h:Rel G zj v):Rel G (.sl sz [] none) v:=by
 cases h
 exact .sl0 sz none none 0 (by simp)
section
variable {E : Env} {rd : Option Nat} {N : Nat} {ops : Array Oper} {K : AS → Prop} {s : AS} {rest : List Oper} {d : Option Tmp} {T : TypeId} {p : String} {af : Array Edge}
theorem w9 {fn:Func} {r r':AV} (h:ARes E fn s r) (hw:∀ (G:Gh) (v:Value),Rel G r v→Rel G r' v):ARes E fn s r':=
 ⟨fun B0 w0 G a w hL hI=>let ⟨v,h1,h2⟩:=h.run B0 w0 G a w hL hI;⟨v,h1,hw G v h2⟩⟩
theorem qq7 {x y:Operand} {t u T':TypeId} {sz bytes k n m:Nat} {xs ys zs:List AV} {tip:Option Nat} {st loc ext new:List AObj} (hs:s.st=((st++loc)++ext)++new) (hx:qg N s x = .sl sz xs (some (st.length+k))) (hy:qg N s y = .sl sz ys tip) (ho:loc[k]? = some (.tip n sz T')) (hn:xs.length=n)
  (ht:E.P.underlying t=some (.slice T')) (hu:E.P.underlying u=some (.slice T')) (hT:yb E.P T' sz bytes) (m8:kr (flat ys)=true) (hm:ys.length=m) (t7:n+m≤maxLen) (hb:(n+m) * bytes≤140737488355328) (hz:xs++ys=zs)
  (h:AOps E rd N ops rest K (AS.put ⟨s.t,((st++loc.set k (.tip (n+m) sz T'))++ext)++new,s.df⟩ d (.sl sz zs (some (st.length+k))))):AOps E rd N ops (⟨d,.call ⟨.builtin .append,#[x,y],#[t,u]⟩,T,p,af,none⟩::rest) K s:=by
 subst hz;have hk:=lt_of_getElem? ho;exact qor hx hy (by rw [hs];exact qch ho) hn ht hu hT m8 hm t7 hb (by rw [hs,qhr _ hk];exact h)
theorem qma {x:Operand} {t:TypeId} {sz:Nat} {agg:Bool} {st loc ext new:List AObj} {k ver off:Nat} {T':TypeId} {cs:List AV} {r:AV} (hs:s.st=((st++loc)++ext)++new) (hx:qg N s x = .bx (st.length+k) ver off) (ho:loc[k]? = some (.cells ver T' cs)) (ht:tyOf E.P t=some (sz,agg)) (hr:jo sz agg off cs=some r)
  (h:AOps E rd N ops rest K (s.put d r)):AOps E rd N ops (⟨d,.load t x,T,p,af,none⟩::rest) K s:=
 j9 hx (by rw [hs];exact qch ho) ht hr h
end
end Go.Av
namespace Go.Pl
open Go
def zp (l:qa):List qa:=
 if h:10∈l then upto 10 l::zp (past 10 l) else [l]
 termination_by l.length
 decreasing_by exact x6 (fun e=>by rw [e] at h;simp at h)
theorem qbb {l:qa} (h:10∈l):zp l=upto 10 l::zp (past 10 l):=by rw [zp,dif_pos h]
theorem qbc {l:qa} (h:10∉l):zp l=[l]:=by rw [zp,dif_neg h]
theorem q26:∀ (n:Nat) (l:qa),l.length≤n→Lib.splitK [10] 0 (Lib.count l [10]) l=zp l
 |n,l,hn=>by
  by_cases h:10∈l
  ·have hi:=qsa 10 l h
   have b9:l≠[]:=fun e=>by rw [e] at h;simp at h
   have d9:=x6 (c:=10) b9;rw [qbb h,Lib.count_hit (i:=(upto 10 l).length) (by simp) hi,Nat.add_comm,Lib.splitK];rw [if_neg (by rw [hi];simp),hi]
   cases n with
   |zero=>exact absurd (List.length_eq_zero_iff.1 (by omega)) b9
   |succ n=>
    have:=q26 n (past 10 l) (by omega);simp only [Int.toNat_natCast,Nat.add_zero,List.length_cons,List.length_nil,Nat.zero_add,qjm];rw [show List.drop ((upto 10 l).length+1) l=past 10 l from rfl,this]
  ·have hi:Lib.index l [10] = -1:=by
    have:=Lib.index_ge l [10];have h2:¬ 0≤Lib.index l [10]:=fun h'=>h ((qcz l 10).1 h');omega
   rw [qbc h,Lib.count_miss hi];rfl
theorem qgv:∀ (n:Nat) (l:qa),l.length≤n→(zp l).length≤l.length+1
 |n,l,hn=>by
  by_cases h:10∈l
  ·have b9:l≠[]:=fun e=>by rw [e] at h;simp at h
   have d9:=x6 (c:=10) b9;rw [qbb h]
   cases n with
   |zero=>exact absurd (List.length_eq_zero_iff.1 (by omega)) b9
   |succ n=>
    have:=qgv n (past 10 l) (by omega);simp only [List.length_cons];omega
  ·rw [qbc h];simp
theorem qgs:∀ (n:Nat) (l:qa),l.length≤n→∀ x∈zp l,x.length≤l.length∧10∉x
 |n,l,hn,x,hx=>by
  by_cases h:10∈l
  ·have b9:l≠[]:=fun e=>by rw [e] at h;simp at h
   have d9:=x6 (c:=10) b9;rw [qbb h,List.mem_cons] at hx;rcases hx with rfl|hx
   ·exact⟨vb 10 l,qdf 10 l⟩
   ·cases n with
    |zero=>exact absurd (List.length_eq_zero_iff.1 (by omega)) b9
    |succ n=>
     have:=qgs n (past 10 l) (by omega) x hx;exact⟨by omega,this.2⟩
  ·rw [qbc h,List.mem_singleton] at hx
   subst hx;exact⟨Nat.le_refl _,h⟩
end Go.Pl
namespace Go.Proofs.YtihlchbgjdkmpaaGreatDoor
open Go Go.Av Go.RowKit Go.Proofs Go.Pl
theorem qmk {f:FuncId} {st:List AObj} {args:List AV} {vals:Array Value} {xs:List qa} {T:TypeId} (ha:args=vals.toList.map .v) (b9:xs≠[])
  (h:∀ B0 w0 w,E.L B0 w0→Below B0 w0 w→Calls E.P f vals w fun e w'=>e = .returned (.slice (some ⟨w.heap.size,0,none⟩) xs.length xs.length)∧w'=w.alloc (.cells (xs.map fun l=>Value.string ⟨l.toArray⟩).toArray T)) :
  qn E f args st fun r st'=>r = .sl 1 (xs.map fun l=>Sv l) none∧st'=st:=by
 subst ha;refine⟨fun B0 w0 G vs w hL hA hR=>?_⟩
 have hv:vs=vals:=by
  have hs:vs.size=vals.size:=by have:=hR.1;simpa using this.symm
  apply Array.ext hs;intro i h1 h2;have:=hR.2 i (.v vals[i]) vs[i] (by simp [h2]) (by simp [h1]);generalize vs[i]=y at this
  cases this
  rfl
 subst hv;refine (h B0 w0 w hL hA.below).mono ?_;rintro e w' ⟨rfl,rfl⟩;obtain⟨d6,hA'⟩:=hA.newPub T (xs.map fun l=>Value.string ⟨l.toArray⟩).toArray (0,0) (xs.map fun l=>Value.string ⟨l.toArray⟩) (fun i y hy=>by simpa using hy);refine⟨_,_,_,st,rfl,d6,hA',?_,rfl,rfl⟩
 have p7:flat (xs.map fun l=>Sv l)=xs.map fun l=>Sv l:=by
  clear b9 h d6 hA'
  induction xs with
  |nil=>rfl
  |cons a xs ih=>rw [List.map_cons,qbq,ih];rfl
 have:=Rel.sl (G:=G.publish w.heap.size (xs.map fun l=>Value.string ⟨l.toArray⟩)) 1 (xs.map fun l=>Sv l) none w.heap.size 0 xs.length (xs.map fun l=>Value.string ⟨l.toArray⟩) (by simp [Gh.publish]) (fun x hx=>by
  simp only [List.mem_map] at hx;obtain⟨l,_,rfl⟩:=hx
  rfl) (by rw [p7];simp) (fun i x y h1 h2=>by
  rw [p7,List.getElem?_map] at h1;rw [Nat.zero_add,List.getElem?_map] at h2
  cases hx:xs[i]? with
  |none=>rw [hx] at h1;simp at h1
  |some l=>
   rw [hx] at h1 h2;simp at h1 h2;subst h1;subst h2
   exact .v _) (fun t ht=>by simp at ht) (by simp)
 simpa using this
theorem q80 (l:List UInt8) (st:List AObj) (hl:l.length<4294967281):qn E 96 [Sv l,Sv [10]] st fun r st'=>r = .sl 1 ((zp l).map fun x=>Sv x) none∧st'=st:=by
 have hd:=Lib.splitB_data ⟨#[10]⟩ 0 (Lib.countB ⟨l.toArray⟩ ⟨#[10]⟩) ⟨l.toArray⟩;have hs:Lib.splitK [10] 0 (Lib.count l [10]) l=zp l:=q26 _ l (Nat.le_refl _);have hn:=Lib.splitB_all ⟨#[10]⟩ (by simp [ByteArray.size]) 0 _ ⟨l.toArray⟩ rfl;have hd2:(Lib.splitB ⟨#[10]⟩ 0 (Lib.countB ⟨l.toArray⟩ ⟨#[10]⟩) ⟨l.toArray⟩).map (·.data.toList)=zp l:=hd.trans hs;have d5:(zp l).length=Lib.countB ⟨l.toArray⟩ ⟨#[10]⟩+1:=by rw [← hd2,List.length_map,hn]
 refine qmk (T:=9) (vals:= #[.string ⟨l.toArray⟩,.string ⟨#[10]⟩]) rfl (fun e=>by rw [e] at d5;simp at d5) fun _ _ w hL hb=>(Tryz.strings_Split_shaped ⟨l.toArray⟩ ⟨#[10]⟩ w (hL w hb).shaped (by simpa [ByteArray.size] using hl) (by simp [ByteArray.size])).mono fun e w' ⟨h1,h2⟩=>?_;refine⟨by rw [h1,d5],?_⟩;rw [h2,← hd2,List.map_map];rfl
end Go.Proofs.YtihlchbgjdkmpaaGreatDoor
namespace Go.Av
open Go Go.RowKit
section
variable {E : Env} {N : Nat} {ops : Array Oper} {K : AS → Prop} {s : AS} {rest : List Oper} {d : Option Tmp} {T : TypeId} {p : String} {af : Array Edge}
theorem qrk {x:Operand} {t:TypeId} {sz:Nat} {agg:Bool} {o ver off:Nat} {T':TypeId} {cs:List AV} {r:AV} (hx:qg N s x = .bx o ver off) (ho:s.st[o]? = some (.cells ver T' cs)) (ht:tyOf E.P t=some (sz,agg)) (hr:jo sz agg off cs=some r)
  (h:AQ E N ops rest K (s.put d r)):AQ E N ops (⟨d,.load t x,T,p,af,none⟩::rest) K s:=by
 refine qc6 rfl nofun fun B0 w0 G a w _ hI=>?_;have he:=hI.eval_of hx;generalize hv:a.eval x=v at he
 cases he with
 |bx _ _ _ b hn bv hb=>
  obtain⟨_,h1,h2,h3,c,h4,h5,h6⟩:=hI.agree.ob o _ ho;have hb:=hb h1;subst hb
  have d9:(G.ob o).blk<w.heap.size:=by
   rcases Nat.lt_or_ge (G.ob o).blk w.heap.size with h'|h'
   ·exact h'
   ·rw [Array.getElem?_eq_none h'] at h4;simp at h4
  -- the value is read out of the cells, whatever is drawn behind them
  have key:∀ w',Below w.heap.size w w'→∃ v,(loadVar t ⟨(G.ob o).blk,off,none⟩).run E.P w' = .ok v w'∧Rel G r v:=fun w' r9=>by
   have h4':w'.heap[(G.ob o).blk]? = some (.cells c T' (0,0)):=by rw [r9.block _ d9];exact h4
   exact qac (w:=w') (G:=G) (b:=(G.ob o).blk) (off:=off) (off':=off) ht (fun i x hx hi=>by
    obtain⟨y,hy⟩:=wa hx (Nat.le_of_eq h5);refine⟨y,?_,h6 i x y hx hy⟩
    simp [World.cell?,h4',show off+(i - off)=i by omega,hy]) hr
  have gn:∀ w',Below w.heap.size w w'→∀ v,(loadVar t ⟨(G.ob o).blk,off,none⟩).run E.P w = .ok v w→(loadVar t ⟨(G.ob o).blk,off,none⟩).run E.P w' = .ok v w':=fun w' r9 v hr1=>by
   obtain⟨i1,i2⟩:=vg ht w;obtain⟨j1,j2⟩:=vg ht w';have hc:∀ k,w'.cell? ⟨(G.ob o).blk,k,none⟩=w.cell? ⟨(G.ob o).blk,k,none⟩:=fun k=>by simp [World.cell?,r9.block _ d9]
   obtain⟨v',h1',_⟩:=key w' r9;rw [h1'];congr 1
   cases agg with
   |false=>
    simp only [jo,cond_false] at hr;obtain⟨y,hy⟩:=wa hr (Nat.le_of_eq h5);have e1:w.cell? ⟨(G.ob o).blk,off,none⟩=some y:=by simp [World.cell?,h4,hy]
    have e2:w'.cell? ⟨(G.ob o).blk,off,none⟩=some y:=by rw [hc,e1]
    simp [loadVar,i2,run_load,e1] at hr1;simp [loadVar,j2,run_load,e2] at h1'
    rw [← h1',hr1]
   |true=>
    simp only [jo,cond_true] at hr
    cases cn:Nat.ble (off+sz) cs.length with
    |false=>rw [cn] at hr;simp at hr
    |true=>
     have d6:off+sz≤cs.length:=Nat.le_of_ble_eq_true cn
     have e1:∀ j,j<sz→w.cell? ⟨(G.ob o).blk,off+j,none⟩=some (c.getD (off+j) undef):=fun j hj=>by
      have:off+j<c.size:=by omega
      simp [World.cell?,h4,this]
     have e2:∀ j,j<sz→w'.cell? ⟨(G.ob o).blk,off+j,none⟩=some (c.getD (off+j) undef):=fun j hj=>by rw [hc,e1 j hj]
     have l1:=run_loadCells (P:=E.P) (w:=w) ⟨(G.ob o).blk,off,none⟩ sz (fun j=>c.getD (off+j) undef) (fun j hj=>by rw [Addr.add_lit];exact e1 j hj);have l2:=run_loadCells (P:=E.P) (w:=w') ⟨(G.ob o).blk,off,none⟩ sz (fun j=>c.getD (off+j) undef) (fun j hj=>by rw [Addr.add_lit];exact e2 j hj);simp [loadVar,i1,i2,l1] at hr1;simp [loadVar,j1,j2,l2] at h1';rw [← h1',hr1]
  obtain⟨v,a8,hR⟩:=key w (Below.refl _ _);exact⟨v,r,fun w' r9=>by simp only [execOp,hv,Instr.loadAt,Instr.sureAddr];simp [gn w' r9 v a8],hR,h⟩
end
end Go.Av
namespace Go.Av
open Go Go.RowKit
section
variable {E : Env} {rd : Option Nat} {N : Nat} {ops : Array Oper} {K : AS → Prop} {s : AS} {rest : List Oper} {d : Option Tmp} {T : TypeId} {p : String} {af : Array Edge}
theorem qou {x:Operand} {t:TypeId} {sz:Nat} {agg:Bool} {st loc:List AObj} {k ver off:Nat} {T':TypeId} {cs:List AV} {r:AV} (hs:s.st=st++loc) (hx:qg N s x = .bx (st.length+k) ver off) (ho:loc[k]? = some (.cells ver T' cs)) (ht:tyOf E.P t=some (sz,agg)) (hr:jo sz agg off cs=some r)
  (h:AQ E N ops rest K (s.put d r)):AQ E N ops (⟨d,.load t x,T,p,af,none⟩::rest) K s:=
 qrk hx (by rw [hs];exact jh ho) ht hr h
end
end Go.Av
namespace Go.Proofs.YtihlchbgjdkmpaaGreatDoor
open Go Go.Av Go.RowKit Go.Proofs Go.Pl
structure qcj where
 kind:Int
 key:qa
 text:qa
 lo:Int
 hi:Int
abbrev FldV:=qa×qa
@[reducible] def fldA (f : FldV) : AV := .ag [Sv f.1, Sv f.2]
@[reducible] def kj (l : List FldV) : AV := .sl 2 (l.map fldA) none
def zcn (r:qcj):Prop:=1≤r.kind∧r.kind≤7∧(r.kind=6∨qdc r.key)
instance (r:qcj):Decidable (zcn r):=inferInstanceAs (Decidable (_∧_∧_))
def q3g (l:qa):List qa:=if l=[] then [] else zp l
theorem q8h (xs:List qa):Pure (.sl 1 (xs.map fun x=>Sv x) none):=qar fun x hx=>by
 simp only [List.mem_map] at hx;obtain⟨l,_,rfl⟩:=hx;intro y hy;simp [AV.cells] at hy;subst hy;exact qt _
def qol (r:qcj) (n:Int):Prop:=r.lo≤n∧n≤r.hi
instance (r:qcj) (n:Int):Decidable (qol r n):=inferInstanceAs (Decidable (_∧_))
def q2w (r:qcj) (l:qa):Prop:=∃ n,numZ l=some n∧qol r n
instance (r:qcj) (l:qa):Decidable (q2w r l):=
 match h:numZ l with
 |some n=>decidable_of_iff (qol r n) ⟨fun h'=>⟨n,h,h'⟩,fun ⟨m,h1,h2⟩=>by rw [h] at h1;cases h1;exact h2⟩
 |none=>.isFalse fun ⟨m,h1,_⟩=>by rw [h] at h1;cases h1
def q0f (r:qcj) (f:FldV):Prop:=
 (r.kind=3→f.1=r.key→q2w r f.2)∧(r.kind=4→f.1=r.key→f.2∈q3g r.text)∧(r.kind=5→f.1=r.key→qol r f.2.length)∧(r.kind=6→f.1∈q3g r.text)
instance (r:qcj) (f:FldV):Decidable (q0f r f):=inferInstanceAs (Decidable (_∧_∧_∧_))
theorem qk4 {xs:List FldV} {k:Nat} (hk:k<xs.length):(xs.map fldA)[k]? = some (fldA (xs.getD k ([],[]))):=by
 simp [List.getD,hk]
def qn2 (key:qa) (xs:List FldV):List qa:=(xs.filter fun f=>f.1=key).map Prod.snd
def zde (r:qcj) (xs:List FldV):Prop:=zcn r∧((r.kind=1∧(qn2 r.key xs).length=0)∨(r.kind=2∧1<(qn2 r.key xs).length)∨(r.kind≠1∧r.kind≠2∧xs.any (fun f=> !decide (q0f r f))=true))
instance (r:qcj) (xs:List FldV):Decidable (zde r xs):=inferInstanceAs (Decidable (_∧(_∨_∨_)))
def badR (r:qcj) (f:FldV):Bool:= !decide (q0f r f)
def cntR (r:qcj) (xs:List FldV):Nat:=if r.kind=6 then 0 else (qn2 r.key xs).length
end Go.Proofs.YtihlchbgjdkmpaaGreatDoor
namespace Go.Av
open Go Go.RowKit Go.WideShapes Go.ChangeShapes Go.Deep
def RelK (G:Gh) (us:List AV) (cs:List Value):Prop:=us.length=cs.length∧∀ (i:Nat) (x:AV) (y:Value),us[i]? = some x→cs[i]? = some y→Rel G x y
theorem RelK.one {G:Gh} {a:AV} {v:Value} (h:RelK G [a] [v]):Rel G a v:=h.2 0 a v rfl rfl
def fieldsOf (P:Program) (t:TypeId):Array Field:=match P.underlying t with|some (.struct fs)=>fs | _=> #[]
end Go.Av
namespace Go.Proofs.YtihlchbgjdkmpaaGreatDoor
open Go Go.Av Go.RowKit Go.Proofs Go.Pl
structure ql where
 kind:Int
 id:Int
 fields:List FldV
@[reducible] def vw (e : ql) : AV := .ag [Iv e.kind, Iv e.id, kj e.fields]
def qay (k:Int):qa:=if k=1 then [32,114,101,112,108,97,99,101,32] else if k=2 then [32,100,101,108,101,116,101,32] else if k=3 then [32,105,110,115,101,114,116,32] else []
def vq (e:ql):qa:=if 1≤e.kind∧e.kind≤3 then qay e.kind++Lib.itoa e.id else []
def qa5 (k:Int):qa:=if k=1 then [114,101,112,108,97,99,101] else if k=2 then [100,101,108,101,116,101] else if k=3 then [105,110,115,101,114,116] else []
theorem qs7 (k:Int) (st:List AObj):qn E 145 [Iv k] st fun r st'=>r=Sv (qa5 k)∧st'=st:=by
 refine zb (qt _) (qr Tryz.func145 rfl (Nat.le_of_ble_eq_true rfl) ?_);repeat' (first|apply qm|apply q9|apply qe|apply qf|apply qj|apply qh|(apply qy;(iterate 3 exact rfl))|(apply qc;exact rfl;apply cd_d <;> intro h)|apply qx|apply qu)
 all_goals refine qo rfl (zi rfl) ⟨congrArg (fun l:qa=>Sv l) (?_:_=qa5 k),_,rfl⟩
 all_goals simp_all [qa5]
theorem q9i (k:Int):(qa5 k).length≤7:=by
 unfold qa5;repeat' split
 all_goals simp
theorem q09 (k:Int):qay k=if qa5 k=[] then [] else [32]++qa5 k++[32]:=by
 unfold qay qa5;repeat' split
 all_goals simp_all
theorem q9j (k:Int):qa5 k=[]↔¬ (1≤k∧k≤3):=by
 unfold qa5;repeat' split
 all_goals simp_all
 omega
theorem zfz (e:ql) (st:List AObj) (h1 : -9223372036854775808≤e.id) (h2:e.id≤9223372036854775807):qn E 102 [vw e] st fun r st'=>r=Sv (vq e)∧st'=st:=by
 refine zb (qt _) (qr Tryz.func102 rfl (Nat.le_of_ble_eq_true rfl) ?_);have hn:=Lib.itoa_length_le e.id h1 h2;have hw:=q9i e.kind;have ho:=q09 e.kind;have hz:=q9j e.kind;repeat' (first|apply qm|apply qe|apply qf|apply qj|apply qh|(apply jv;(iterate 3 exact rfl))|(apply qc;exact rfl;apply cd_d <;> intro h)|(apply vh;exact rfl;exact rfl;exact cOs)|(apply qcq;(iterate 4 exact rfl))|(apply zk;(iterate 3 exact rfl))|(apply j5;(iterate 5 exact rfl))|apply qx|apply qu|(apply qk;exact Tryz.call145;exact qs7 _ _)|(apply qk;exact Tryz.call54;exact qm9 _ _ h1 h2))
 all_goals refine qo rfl (zi rfl) ⟨congrArg (fun l:qa=>Sv l) (?_:_=vq e),_,rfl⟩
 all_goals unfold vq
 ·rw [if_neg (by simp_all)]
 ·rw [if_pos (by simp_all),ho,if_neg (by assumption)]
end Go.Proofs.YtihlchbgjdkmpaaGreatDoor
namespace Go.Av
open Go Go.RowKit
def noop (o:Oper):Oper:={ o with op:=.move (.const undef),guard:=none }
section
variable {F : Fence} {n : Nat} {P : Program} {ops ops' : Array Oper} {md : Region.Mode} {C : World → Prop} {Q : Exit → Act → World → Prop} {k : Nat} {o : Oper}
theorem qke {listed:Array Bool}:∀ k,listed.getD k true=false→∃ j,j≤k∧listed.getD j true=false∧∀ i,i<j→listed.getD i true=true:=by
 intro k
 induction k using Nat.strongRecOn with
 | _ k ih=>
  intro h;by_cases s6:∀ i,i<k→listed.getD i true=true
  ·exact⟨k,Nat.le_refl _,h,s6⟩
  ·have ⟨i,hi⟩:=Classical.not_forall.1 s6
   have ⟨hi1,dt⟩:=Classical.not_imp.1 hi;obtain⟨j,h1,h2,h3⟩:=ih i hi1 (by simpa using dt);exact⟨j,by omega,h2,h3⟩
theorem qwj {listed:Array Bool} {i:Nat} (h:listed.getD i true=true) (hi:i<listed.size):listed.getD i false=true:=by
 simp [Array.getD,hi] at h ⊢;exact h
theorem q08 {listed:Array Bool} {i:Nat} (h:listed.getD i true=false) (h2:listed.getD i false=true):False:=by
 unfold Array.getD at h h2;by_cases hi:i<listed.size
 ·rw [dif_pos hi] at h h2
  rw [h] at h2
  cases h2
 ·rw [dif_neg hi] at h
  cases h
theorem qpi {listed:Array Bool} {j:Nat} (i5:listed.size=ops.size) (gx:∀ (j:Nat) o,ops[j]? = some o→∀ e∈o.after,e.on<j) (hj:listed.getD j true=false) (s6:∀ i,i<j→listed.getD i true=true):j∈Region.ready md ops listed:=by
 have d9:j<listed.size:=by
  rcases Nat.lt_or_ge j listed.size with h|h
  ·exact h
  ·simp [Array.getD,Nat.not_lt.2 h] at hj
 rw [mem_ready];have ho:ops[j]? = some ops[j]:=Array.getElem?_eq_getElem (by omega);exact⟨hj,_,ho,fun e he _=>qwj (s6 _ (gx j _ ho e he)) (by have:=gx j _ ho e he;omega)⟩
theorem qlu {listed:Array Bool} (hs:ops.size=ops'.size) (hk:ops[k]? = some o) (s8:ops'[k]? = some (noop o)) (p9:∀ j,j≠k→ops'[j]? = ops[j]?):Region.ready md ops' listed=Region.ready md ops listed:=by
 unfold Region.ready;rw [hs];refine List.filter_congr fun i _=>?_;by_cases h:i=k
 ·subst h;rw [hk,s8];rfl
 ·rw [p9 i h]
theorem q0k (hd:o.dst=none) (hk:ops[k]? = some o) (s8:ops'[k]? = some (noop o)) (p9:∀ j,j≠k→ops'[j]? = ops[j]?) (t:Array Value):yielded ops' t=yielded ops t:=by
 funext j;unfold yielded;by_cases h:j=k
 ·subst h;rw [hk,s8];simp [noop,hd]
 ·rw [p9 j h]
theorem qn3 (hro:F.round=none) (i5:ops.size=ops'.size) (hk:ops[k]? = some o) (s8:ops'[k]? = some (noop o)) (p9:∀ j,j≠k→ops'[j]? = ops[j]?) (hd:o.dst=none)
  (gx:∀ (j:Nat) o,ops[j]? = some o→∀ e∈o.after,e.on<j) (hcov:∀ j,j<ops.size→j≠k→∃ e∈o.after,Region.binds md e=true∧e.on=j) :
  ∀ (fuel:Nat) (listed:Array Bool) (a:Act) (w:World),C w→listed.size=ops.size→listed.getD k true=false→wpAnyQIn F n P md ops' C (fun a=>∀ w,C w→wpOpIn F n P ops Q k (Q .normal) a w) fuel listed a→wpAnyIn F n P md ops Q fuel listed a w
 | 0,listed,a,w,hC,hs,pw,h=>by
  have ⟨j,_,h2,h3⟩:=qke k pw;have:=qpi (md:=md) hs gx h2 h3;rw [← qlu i5 hk s8 p9,h.1] at this
  cases this
 |fuel+1,listed,a,w,hC,hs,pw,h=>by
  obtain⟨hq1,o6⟩:=h;rw [qlu i5 hk s8 p9] at hq1 o6;refine⟨fun h0=>?_,fun i hi=>?_⟩
  ·have ⟨j,_,h2,h3⟩:=qke k pw
   have:=qpi (md:=md) hs gx h2 h3;rw [h0] at this
   cases this
  ·have hqi:=o6 i hi
   by_cases hik:i=k
   ·subst hik
    obtain⟨_,o',d7,s6⟩:=mem_ready.1 hi;rw [hk] at d7
    cases d7
    have hr:Region.ready md ops (listed.setIfInBounds i true)=[]:=by
     rw [List.eq_nil_iff_forall_not_mem];intro j hj;obtain⟨hju,oj,hoj,_⟩:=mem_ready.1 hj
     have hjs:j<ops.size:=by
      rcases Nat.lt_or_ge j ops.size with h|h
      ·exact h
      ·rw [Array.getElem?_eq_none h] at hoj;cases hoj
     by_cases cd:j=i
     ·subst cd
      simp [Array.getD,hs,hjs] at hju
     ·obtain⟨e,he,hb,heq⟩:=hcov j hjs cd
      have h5:=s6 e he hb;rw [heq] at h5;rw [getD_set_ne true (Ne.symm cd)] at hju;exact q08 hju h5
    unfold qOpIn at hqi;rw [s8] at hqi;simp only at hqi;have hqe:=hqi.2;have hwn:Region.wanted (noop o) (yielded ops' a.tmps)=true:=by simp [noop,Region.wanted]
    rw [if_pos hwn] at hqe;obtain⟨v,_,hK⟩:=hqe;have hput:a.put (noop o).dst v=a:=by simp [noop,hd,Act.put]
    rw [hput] at hK
    have hQ':∀ w,C w→wpOpIn F n P ops Q i (Q .normal) a w:=by
     cases fuel with
     |zero=>exact hK.2
     |succ fuel=>exact hK.1 (by rw [qlu i5 hk s8 p9];exact hr)
    exact wpOpIn_mono (fun a' w' h'=>wpAnyIn_done hr h' _) (hQ' w hC)
   ·have he:qOpIn F n P ops C i (wpAnyQIn F n P md ops' C (fun a=>∀ w,C w→wpOpIn F n P ops Q k (Q .normal) a w) fuel (listed.setIfInBounds i true)) a:=by
     unfold qOpIn at hqi ⊢;rw [p9 i hik] at hqi;rw [← q0k hd hk s8 p9];exact hqi
    refine wpOpIn_of_qOpIn hro hC (fun a' w' hC' hX=>qn3 hro i5 hk s8 p9 hd gx hcov fuel _ a' w' hC' (by simpa using hs) ?_ hX) he;rw [getD_set_ne true hik];exact pw
def qeo {α : Type}:List α→Option (List α×α)
 | []=>none
 | [x]=>some ([],x)
 |x::y::r=>match qeo (y::r) with
  |some (l,o)=>some (x::l,o)
  |none=>none
theorem qnw {α : Type}:∀ {L l:List α} {o : α},qeo L=some (l,o)→L=l++[o]
 | [],_,_,h=>by simp [qeo] at h
 | [x],_,_,h=>by simp [qeo] at h;obtain⟨rfl,rfl⟩:=h;rfl
 |x::y::r,l,o,h=>by
  unfold qeo at h;split at h
  ·rename_i l' o' he
   simp only [Option.some.injEq,Prod.mk.injEq] at h;obtain⟨rfl,rfl⟩:=h;rw [qnw he];rfl
  ·simp at h
def q19 (o:Oper) (k:Nat):Bool:=(List.range k).all fun j=>o.after.toList.any fun e=>Region.binds .any e && Nat.beq e.on j
def qzg (ops:List Oper):Bool:=(List.range ops.length).all fun j=>match ops[j]? with|some o=>o.after.toList.all fun e=>Nat.blt e.on j|none=>true
end
section
variable {E : Env} {N : Nat} {s : AS}
theorem q6b {id:Nat} {L l:List Oper} {o:Oper} {Q:Exit→AS→Prop} (gp:qeo L=some (l,o)) (hd:o.dst=none) (hcov:q19 o l.length=true) (gx:qzg L=true) (hm:E.P.follows .mixedOrders=true) (hB:Region.lexB .any (l++[noop o]).toArray=true)
  (h:AQ E N (l++[noop o]).toArray l (fun s'=>AOps E none N L.toArray [o] (Q .normal) s') s):AWp E none N (.region id L.toArray true) Q s:=by
 have hLe:=qnw gp;subst hLe;refine⟨fun B0 w0 G a w hL hI=>?_⟩;have fg:=hB;simp only [Region.lexB,Bool.and_eq_true] at fg;have hk:(l++[o]).toArray[l.length]? = some o:=by simp
 have s8:(l++[noop o]).toArray[l.length]? = some (noop o):=by simp
 have p9:∀ j,j≠l.length→(l++[noop o]).toArray[j]? = (l++[o]).toArray[j]?:=fun j hj=>by
  simp only [List.getElem?_toArray];rcases Nat.lt_or_ge j l.length with h|h
  ·rw [List.getElem?_append_left h,List.getElem?_append_left h]
  ·rw [List.getElem?_eq_none (by simp;omega),List.getElem?_eq_none (by simp;omega)]
 have hordP:∀ (j:Nat) o',(l++[o]).toArray[j]? = some o'→∀ e∈o'.after,e.on<j:=fun j o' hj e he=>by
  simp only [qzg,List.all_eq_true,List.mem_range] at gx;simp only [List.getElem?_toArray] at hj;have h1:=gx j (lt_of_getElem? hj);rw [hj] at h1;simp only at h1;have h2:=List.all_eq_true.1 h1 e (by simpa using he);exact Nat.le_of_ble_eq_true h2
 have hcovP:∀ j,j<(l++[o]).toArray.size→j≠l.length→∃ e∈o.after,Region.binds .any e=true∧e.on=j:=fun j hj b9=>by
  simp only [q19,List.all_eq_true,List.mem_range] at hcov;have h1:=hcov j (by simp at hj;omega);obtain⟨e,he,h2⟩:=List.any_eq_true.1 h1;simp only [Bool.and_eq_true] at h2;exact⟨e,by simpa using he,h2.1,Nat.eq_of_beq_eq_true h2.2⟩
 have hBl:Below w.heap.size w { w with drawn:=w.drawn+1 }:=⟨rfl,rfl,rfl,Nat.le_refl _,fun _ _=>rfl⟩;refine wpIn_region_any hm (qn3 (C:=fun w'=>Below w.heap.size w w') (ops':=(l++[noop o]).toArray) (k:=l.length) rfl (by simp) hk s8 p9 hd hordP hcovP _ _ _ _ hBl (by simp) (by simp [Array.getD]) ?_)
 have hq:wpQuietIn (fw none) 0 E.P (l++[noop o]).toArray (fun w'=>Below w.heap.size w w') (fun a=>∀ w',Below w.heap.size w w'→wpOpIn (fw none) 0 E.P (l++[o]).toArray (fun e a' w'=>∃ (G':Gh) (s':AS),G.le G'∧Inv B0 w0 N G' s' a' w'∧Q e s') l.length (fun a' w'=>∃ (G':Gh) (s':AS),G.le G'∧Inv B0 w0 N G' s' a' w'∧Q .normal s') a w') (l++[noop o]) a:=by
  have step:∀ (l1:List Oper) (a:Act) (X:Act→Prop),wpQuietIn (fw none) 0 E.P (l++[noop o]).toArray (fun w'=>Below w.heap.size w w') X l1 a→wpQuietIn (fw none) 0 E.P (l++[noop o]).toArray (fun w'=>Below w.heap.size w w') X (l1++[noop o]) a:=by
   intro l1
   induction l1 with
   |nil=>
    intro a X hX;refine⟨fun _ _ _ hf=>?_,?_⟩
    ·simp [Oper.about,noop] at hf
    ·have hwn:Region.wanted (noop o) (yielded (l++[noop o]).toArray a.tmps)=true:=by simp [noop,Region.wanted]
     rw [if_pos hwn];refine⟨undef,fun w' _=>?_,?_⟩
     ·unfold Oper.quietAtIn
      simp [noop,execOp,Oper.quietUponIn,Act.eval]
     ·have hput:a.put (noop o).dst undef=a:=by simp [noop,hd,Act.put]
      rw [hput]
      exact hX
   |cons o1 l1 ih=>
    intro a X hX;refine⟨hX.1,?_⟩;have h2:=hX.2;split
    ·rename_i hw
     rw [if_pos hw] at h2;obtain⟨v,h3,h4⟩:=h2;exact⟨v,h3,ih _ _ h4⟩
    ·rename_i hw
     rw [if_neg hw] at h2;exact ih _ _ h2
  refine step l a _ (h.run B0 w0 G a w hL hI _ fun s' a' r7 d8 dv w' r9=>?_);have nt:Inv B0 w0 N G s' a' w':=⟨r7.agree.fresh r9,r7.defers,r7.size,r7.tmps⟩;have hr:=dv.run B0 w0 G a' w' hL nt (fun e a' w'=>∃ (G':Gh) (s':AS),G.le G'∧Inv B0 w0 N G' s' a' w'∧Q e s') (fun G' s'' a'' w'' hG hI3 hQ=>⟨G',s'',hG,hI3,hQ⟩);unfold wpOpIn;rw [hk];exact hr
 have:=wpAnyQIn_lex (F:=fw none) (n:=0) (C:=fun w'=>Below w.heap.size w w') (md:=.any) fg.1 (l++[noop o]) 0 (Array.replicate (l++[noop o]).length false) a (by simp) (by simpa using fg.2) hq
 simpa using this
variable {ops : Array Oper} {K : AS → Prop} {rest : List Oper} {d : Option Tmp} {T : TypeId} {p : String} {af : Array Edge}
theorem quj {x y:Operand} {t t':TypeId} {m n:List UInt8} (hx:qg N s x=Sv m) (hy:qg N s y=Sv n) (hl:m.length+n.length<9223372036854775808)
  (h:AQ E N ops rest K (s.put d (Sv (m++n)))):AQ E N ops (⟨d,.binOp .add t x y t',T,p,af,none⟩::rest) K s:=
 qau _ rfl nofun (fun a w he=>by
  simp only [execOp,he _ _ hx,he _ _ hy,eqGuard_at_string,binOp,Op.stringOp,qad,qug,IntKind.max_i64];rw [if_neg (by omega)]
  simp) h
theorem qcr {x y:Operand} {t e:TypeId} {sz:Nat} {agg:Bool} {xs:List AV} {tip:Option Nat} {k:IntKind} {i:Int} {n:Nat} {z:AV} (hx:qg N s x = .sl sz xs tip) (hy:qg N s y = .v (.int k i)) (hu:E.P.underlying t=some (.slice e)) (ht:tyOf E.P e=some (sz,agg)) (hi:i=n) (hz:xs[n]? = some z)
  (h:AQ E N ops rest K (s.put d (.pp z.cells))):AQ E N ops (⟨d,.indexAddr t x y,T,p,af,none⟩::rest) K s:=by
 refine qc6 rfl nofun fun B0 w0 G a w _ hI=>?_;subst hi;have he:=hI.eval_of hx;have dg:=hI.evalv hy;generalize hv:a.eval x=v at he;have d9:=lt_of_getElem? hz
 cases he with
 |sl0=>simp at hz
 |sl _ _ _ b off cap pub hp hw d5 g9 htip m9=>
  have gq:z.cells.length=sz:=hw z (List.mem_of_getElem? hz);have p7:=z6 hw;have d6:(n+1) * sz≤xs.length * sz:=Nat.mul_le_mul_right _ d9;rw [Nat.succ_mul] at d6;refine⟨.pointer (some ⟨b,off+n * sz,none⟩),.pp z.cells,fun w' _=>?_,?_,h⟩
  ·generalize a.eval = ρ at hv dg
   simp only [execOp,hv,dg];simp [Instr.indexAt,asIntOf,run_underlying hu,d9,(vg ht w').1,Addr.add_lit]
  ·refine .pp _ b _ pub hp (by omega) fun j q r h1 h2=>?_
   have hj:j<sz:=by have:=lt_of_getElem? h1;omega
   have hf:=qk3 hw hz j hj;exact g9 (n * sz+j) q r (by rw [hf];exact h1) (by rw [← h2];congr 1;omega)
theorem qrj {x y:Operand} {t e:TypeId} {sz:Nat} {agg:Bool} {o ver off len cp:Nat} {k:IntKind} {i:Int} {n:Nat} (hx:qg N s x = .os o ver off len cp) (hy:qg N s y = .v (.int k i)) (hu:E.P.underlying t=some (.slice e)) (ht:tyOf E.P e=some (sz,agg)) (hi:i=n) (hn:n<len)
  (h:AQ E N ops rest K (s.put d (.bx o ver (off+n * sz)))):AQ E N ops (⟨d,.indexAddr t x y,T,p,af,none⟩::rest) K s:=by
 refine qc6 rfl nofun fun B0 w0 G a w _ hI=>?_;subst hi;have he:=hI.eval_of hx;have dg:=hI.evalv hy;generalize hv:a.eval x=v at he
 cases he with
 |os _ _ _ _ b cap mf bf hb=>
  refine⟨.pointer (some ⟨b,off+n * sz,none⟩),_,fun w' _=>?_,.bx o ver _ b mf bf hb,h⟩;generalize a.eval = ρ at hv dg;simp only [execOp,hv,dg];simp [Instr.indexAt,asIntOf,run_underlying hu,hn,(vg ht w').1,Addr.add_lit]
theorem qrh {t:TypeId} {x:Operand} {f off sz:Nat} {agg:Bool} {o ver q:Nat} (hx:qg N s x = .bx o ver q) (hf:qap E.P t f=some (off,sz,agg)) (i5:Nat.beq sz 0=false)
  (h:AQ E N ops rest K (s.put d (.bx o ver (q+off)))):AQ E N ops (⟨d,.fieldAddr t x f,T,p,af,none⟩::rest) K s:=by
 refine qc6 rfl nofun fun B0 w0 G a w _ hI=>?_;have he:=hI.eval_of hx;generalize hv:a.eval x=v at he
 cases he with
 |bx _ _ _ b hn bv hb=>
  have hs:sz≠0:=fun e=>by subst e;simp at i5
  exact⟨_,_,fun w' _=>by simp only [execOp,hv];simp [qf5 hf hs],.bx o ver _ b hn bv hb,h⟩
theorem qri {t:TypeId} {x:Operand} {f off sz:Nat} {agg:Bool} {cs:List AV} (hx:qg N s x = .pp cs) (hf:qap E.P t f=some (off,sz,agg)) (i5:Nat.beq sz 0=false) (d6:Nat.ble off cs.length=true)
  (h:AQ E N ops rest K (s.put d (.pp (cs.drop off)))):AQ E N ops (⟨d,.fieldAddr t x f,T,p,af,none⟩::rest) K s:=by
 refine qc6 rfl nofun fun B0 w0 G a w _ hI=>?_;have he:=hI.eval_of hx;generalize hv:a.eval x=v at he
 cases he with
 |pp _ b q pub hp d5 g9=>
  have hs:sz≠0:=fun e=>by subst e;simp at i5
  have ho:off≤cs.length:=Nat.le_of_ble_eq_true d6;refine⟨.pointer (some ⟨b,q+off,none⟩),_,fun w' _=>by simp only [execOp,hv];simp [qf5 hf hs],?_,h⟩;exact .pp _ b (q+off) pub hp (by simp;omega) fun i x y h1 h2=>g9 (off+i) x y (by simpa using h1) (by rw [← h2];congr 1;omega)
theorem qg1 {x:Operand} {t:TypeId} {sz:Nat} {agg:Bool} {cs:List AV} {r:AV} (hx:qg N s x = .pp cs) (ht:tyOf E.P t=some (sz,agg)) (hr:jo sz agg 0 cs=some r)
  (h:AQ E N ops rest K (s.put d r)):AQ E N ops (⟨d,.load t x,T,p,af,none⟩::rest) K s:=by
 refine qc6 rfl nofun fun B0 w0 G a w _ hI=>?_;have he:=hI.eval_of hx;generalize hv:a.eval x=v at he
 cases he with
 |pp _ b off pub hp d5 g9=>
  obtain⟨c,T',fz,hc,rm⟩:=hI.agree.pub b pub hp;have d9:b<w.heap.size:=hI.agree.pub_lt hp
  have key:∀ w',Below w.heap.size w w'→∃ v,(loadVar t ⟨b,off,none⟩).run E.P w' = .ok v w'∧Rel G r v:=fun w' r9=>by
   have h4':w'.heap[b]? = some (.cells c T' fz):=by rw [r9.block _ d9];exact hc
   exact qac (w:=w') (G:=G) (b:=b) (off:=off) ht (fun i x hx _=>by
    have hi:=lt_of_getElem? hx;have hy:pub[off+i]? = some (pub[off+i]'(by omega)):=List.getElem?_eq_getElem (by omega);refine⟨_,?_,g9 i x _ hx hy⟩
    simp [World.cell?,h4',rm _ _ hy]) hr
  have hg:∀ w',Below w.heap.size w w'→∀ j,j<cs.length→w'.cell? ⟨b,off+j,none⟩=some (pub.getD (off+j) undef):=fun w' r9 j hj=>by
   have h4':w'.heap[b]? = some (.cells c T' fz):=by rw [r9.block _ d9];exact hc
   have hlt2:off+j<pub.length:=by omega
   have hy:pub[off+j]? = some (pub.getD (off+j) undef):=by simp [List.getD,hlt2]
   simp [World.cell?,h4',rm _ _ hy]
  have gn:∀ w',Below w.heap.size w w'→∀ v,(loadVar t ⟨b,off,none⟩).run E.P w = .ok v w→(loadVar t ⟨b,off,none⟩).run E.P w' = .ok v w':=fun w' r9 v hr1=>by
   obtain⟨i1,i2⟩:=vg ht w;obtain⟨j1,j2⟩:=vg ht w';obtain⟨v',h1',_⟩:=key w' r9;rw [h1'];congr 1
   cases agg with
   |false=>
    simp only [jo,cond_false] at hr;have h0:=lt_of_getElem? hr;have e1:=hg w (Below.refl _ _) 0 h0;have e2:=hg w' r9 0 h0;rw [Nat.add_zero] at e1 e2;simp [loadVar,i2,run_load,e1] at hr1;simp [loadVar,j2,run_load,e2] at h1'
    rw [← h1',hr1]
   |true=>
    simp only [jo,cond_true] at hr
    cases cn:Nat.ble (0+sz) cs.length with
    |false=>rw [cn] at hr;simp at hr
    |true=>
     have d6:0+sz≤cs.length:=Nat.le_of_ble_eq_true cn;have l1:=run_loadCells (P:=E.P) (w:=w) ⟨b,off,none⟩ sz (fun j=>pub.getD (off+j) undef) (fun j hj=>by rw [Addr.add_lit];exact hg w (Below.refl _ _) j (by omega));have l2:=run_loadCells (P:=E.P) (w:=w') ⟨b,off,none⟩ sz (fun j=>pub.getD (off+j) undef) (fun j hj=>by rw [Addr.add_lit];exact hg w' r9 j (by omega));simp [loadVar,i1,i2,l1] at hr1;simp [loadVar,j1,j2,l2] at h1';rw [← h1',hr1]
  obtain⟨v,a8,hR⟩:=key w (Below.refl _ _);exact⟨v,r,fun w' r9=>by simp only [execOp,hv,Instr.loadAt,Instr.sureAddr];simp [gn w' r9 v a8],hR,h⟩
theorem zfd {x y:Operand} {t t':TypeId} {k:IntKind} {m n r:Int} (hx:qg N s x = .v (.int k m)) (hy:qg N s y = .v (.int k n)) (hr:k.wrap (m - n)=r)
  (h:AQ E N ops rest K (s.put d (.v (.int k r)))):AQ E N ops (⟨d,.binOp .sub t x y t',T,p,af,none⟩::rest) K s:=
 qau _ rfl nofun (fun a w he=>by rw [← hr];simp [execOp,he _ _ hx,he _ _ hy,eqGuard_at_int,binOp,Op.intArith]) h
theorem zc2 {x y z:Operand} {t:TypeId} {k k':IntKind} {l:List UInt8} {i j:Nat} (hx:qg N s x=Sv l) (hy:qg N s y = .v (.int k' (i:Int))) (hz:qg N s z = .v (.int k (j:Int))) (hu:E.P.underlying t=some .string) (h1:i≤j) (h2:j≤l.length)
  (h:AQ E N ops rest K (s.put d (Sv ((l.take j).drop i)))):AQ E N ops (⟨d,.slice t x (some y) (some z) none,T,p,af,none⟩::rest) K s:=
 qpt (i:=i) (j:=j) hx hu ⟨_,hy⟩ ⟨_,hz⟩ (by omega) (by omega) (by omega) (by simpa using h)
theorem zc0 {x:Operand} {ts:Array TypeId} {t0 e:TypeId} {v:AV} {n:Nat} (hx:qg N s x=v) (hl:lenA v=some n) (ht:ts[0]? = some t0) (hu:E.P.underlying t0=some (.slice e))
  (h:AQ E N ops rest K (s.put d (Iv n))):AQ E N ops (⟨d,.call ⟨.builtin .len,#[x],ts⟩,T,p,af,none⟩::rest) K s:=by
 refine qc6 rfl nofun fun B0 w0 G a w _ hI=>?_;have he:=hI.eval_of hx
 have key:∃ b c,a.eval x = .slice b n c:=by
  generalize a.eval x=u at he
  cases he <;> simp [lenA] at hl
  case v y=>
   cases u <;> simp at hl
   subst hl;exact⟨_,_,rfl⟩
  case sl0=>subst hl;exact⟨_,_,rfl⟩
  case sl=>subst hl;exact⟨_,_,rfl⟩
  case os=>subst hl;exact⟨_,_,rfl⟩
 obtain⟨b,c,hv⟩:=key;refine⟨.int .i64 n,Iv n,fun w' _=>?_,.v _,h⟩;generalize a.eval = ρ at hv;simp [execOp,resolve,invoke,builtin,Builtin.len_,hv,ht,run_underlying hu,goInt]
theorem q0s {x:Operand} {t:TypeId} {sz:Nat} {agg:Bool} {st loc ext new:List AObj} {k ver off:Nat} {T':TypeId} {cs:List AV} {r:AV} (hs:s.st=((st++loc)++ext)++new) (hx:qg N s x = .bx (st.length+k) ver off) (ho:loc[k]? = some (.cells ver T' cs)) (ht:tyOf E.P t=some (sz,agg)) (hr:jo sz agg off cs=some r)
  (h:AQ E N ops rest K (s.put d r)):AQ E N ops (⟨d,.load t x,T,p,af,none⟩::rest) K s:=
 qrk hx (by rw [hs];exact qch ho) ht hr h
end
end Go.Av
namespace Go.Av
open Go Go.RowKit
section
variable {B0 : Nat} {w0 : World} {G : Gh} {st : List AObj} {w : World}
theorem zf.pubOb (h:zf B0 w0 G st w) {o ver:Nat} {T:TypeId} {cs:List AV} (ho:st[o]? = some (.cells ver T cs)) :
  ∃ vs:List Value,G.le (G.publish (G.ob o).blk vs)∧zf B0 w0 (G.publish (G.ob o).blk vs) (st.set o .dead) w∧(G.ob o).ver=ver∧(G.publish (G.ob o).blk vs).pub (G.ob o).blk=some vs∧cs.length=vs.length ∧
   ∀ (i:Nat) (x:AV) (y:Value),cs[i]? = some x→vs[i]? = some y→Rel (G.publish (G.ob o).blk vs) x y:=by
 obtain⟨h0,h1,h2,h3,c,h4,h5,h6⟩:=h.ob o _ ho;have d6:G.le (G.publish (G.ob o).blk c.toList):=G.le_publish _ _ [] [] (.inl h3);refine⟨c.toList,d6,?_,h1,by simp [Gh.publish],by simpa using h5,fun i x y hx hy=>(h6 i x y hx (by simpa using hy)).mono d6⟩
 have key:∀ (k:Nat) (x:AObj),(st.set o .dead)[k]? = some x→x = .dead∨(k≠o∧st[k]? = some x):=fun k x hx=>by
  rcases getElem?_set' _ _ _ _ _ hx with⟨_,e⟩|e
  ·exact .inl e
  ·exact .inr e
 refine⟨h.below,h.hB,by simp [h.n,Gh.publish],fun b vs hb=>?_,fun k x hx=>?_,fun k k' x x' b9 hx e7 hl s4=>?_⟩
 ·simp only [Gh.publish] at hb
  by_cases e:b=(G.ob o).blk
  ·rw [if_pos e] at hb
   cases hb
   subst e;exact⟨c,T,(0,0),h4,fun i y hy=>by simpa using hy⟩
  ·rw [if_neg e] at hb
   exact h.pub b vs hb
 ·rcases key k x hx with rfl | ⟨hk,hx⟩
  ·trivial
  ·refine (h.ob k x hx).mono d6 rfl (fun hl=>?_) (fun _=>rfl)
   have:=h.sep k o x _ hk hx ho hl trivial;simp [Gh.publish,this]
 ·rcases key k x hx with rfl | ⟨hk,hx⟩
  ·exact hl.elim
  ·rcases key k' x' e7 with rfl | ⟨s8,e7⟩
   ·exact s4.elim
   ·exact h.sep k k' x x' b9 hx e7 hl s4
end
section
variable {E : Env} {rd : Option Nat} {N : Nat} {ops : Array Oper} {K : AS → Prop} {s : AS} {rest : List Oper} {d : Option Tmp} {T : TypeId} {p : String} {af : Array Edge}
theorem Inv.pub {B0:Nat} {w0:World} {G:Gh} {a:Act} {w:World} (h:Inv B0 w0 N G s a w) {i o ver:Nat} {T':TypeId} {cs:List AV} (hi:s.t i = .bx o ver 0) (ho:s.st[o]? = some (.cells ver T' cs)) :
  ∃ G',G.le G'∧Inv B0 w0 N G' ⟨Av.put s.t i (.pp cs),s.st.set o .dead,s.df⟩ a w:=by
 obtain⟨vs,d6,hA,hv,hp,hl,hr⟩:=h.agree.pubOb ho;refine⟨_,d6,hA,h.defers_mono d6,h.size,fun j y hy=>?_⟩;have hj:=h.tmps j y hy;by_cases e:j=i
 ·subst e
  simp only [wz];rw [hi] at hj
  cases hj with
  |bx _ _ _ b hn bv hb=>
   have hb:=hb hv;subst hb;exact .pp cs _ 0 vs hp (by omega) fun k x y hx hy=>hr k x y hx (by simpa using hy)
 ·simp only
  rw [y3 _ _ _ _ e];exact hj.mono d6
theorem qfd {x y:Operand} {t:TypeId} {sz:Nat} {agg:Bool} {st loc loc' ext new:List AObj} {k ver off:Nat} {T':TypeId} {cs xs:List AV} {r:AV} (hs:s.st=((st++loc)++ext)++new) (hx:qg N s x = .bx (st.length+k) ver off) (hy:qg N s y=r) (ho:loc[k]? = some (.cells ver T' cs)) (ht:tyOf E.P t=some (sz,agg))
  (hok:r.okc=true) (hc:r.cells=xs) (i5:Nat.beq xs.length sz=true) (h1:kr xs=true) (i4:Nat.ble (off+sz) cs.length=true) (hl:loc'=loc.set k (.cells ver T' (zr cs off xs)))
  (h:AOps E rd N ops rest K (AS.put ⟨s.t,((st++loc')++ext)++new,s.df⟩ d (.v undef))):AOps E rd N ops (⟨d,.store t x y,T,p,af,none⟩::rest) K s:=by
 have hk:=lt_of_getElem? ho;exact x7 hx hy (by rw [hs];exact qch ho) ht hok hc i5 h1 i4 (by rw [hs,qhr _ hk,← hl];exact h)
end
theorem qfp {α : Type} (l:List α) (a : α):(l++[a]).length=l.length+1:=by simp
theorem qto {α : Type} (l:List α) (a : α):Iv ((l.length:Int)+1)=Iv ((l++[a]).length:Nat):=by rw [qfp];rfl
theorem zb7 {α : Type} {sz:Nat} {tip:Option Nat} (x0:AV) (g : α→AV) (pre:List α) (a : α) (v:AV) (h:v=g a):AV.sl sz ((x0::pre.map g)++[v]) tip=AV.sl sz (x0::(pre++[a]).map g) tip:=by rw [List.map_append,h];rfl
theorem q0n {E:Env} {rd:Option Nat} {N:Nat} {ops:Array Oper} {K:AS→Prop} {s:AS} {rest:List Oper} {d:Option Tmp} {T:TypeId} {p:String} {af:Array Edge} {t:TypeId} {st loc:List AObj} {cs:List AV} {n:Nat} (d8:s.st=st++loc) (hn:st.length=n) (hz:qhm E.P t=some cs)
  (h:AOps E rd N ops rest K (AS.put ⟨s.t,st++(loc++[.cells 0 t cs]),s.df⟩ d (.bx (n+loc.length) 0 0))):AOps E rd N ops (⟨d,.alloc t,T,p,af,none⟩::rest) K s:=by
 subst hn;exact jy d8 hz h
theorem qeb {E:Env} {rd:Option Nat} {N:Nat} {c:Code} {Q:Exit→AS→Prop} {s:AS} {α : Type} (xs:List α) (I:List α→AS→Prop) (h0:I [] s) (gv:∀ s,I xs s→AWp E rd N c (qwy (fun _=>False) Q) s)
  (hstep:∀ pre a rest s,xs=pre++a::rest→I pre s→AWp E rd N c (qwy (fun s'=>I (pre++[a]) s') Q) s):AWp E rd N (.loop c) Q s:=by
 refine v4 (fun (x:List α×List α) s=>xs=x.1++x.2∧I x.1 s) (fun x=>x.2.length) ([],xs) ⟨rfl,h0⟩ ?_;rintro⟨pre,rest⟩ s ⟨hx,hi⟩
 cases rest with
 |nil=>
  simp only [List.append_nil] at hx;subst hx;refine (gv s hi).mono fun e s' h=>?_
  cases e with
  |normal=>exact h.elim
  | _=>exact h
 |cons a rest=>
  refine (hstep pre a rest s hx hi).mono fun e s' h=>?_
  cases e with
  |normal=>exact⟨(pre++[a],rest),⟨by rw [hx];simp,h⟩,by simp⟩
  | _=>exact h
theorem qwc {E:Env} {fn:Func} {R:AV→List AObj→Prop} {s:AS} {st loc ext new:List AObj} {k:Nat} {ds:List Nat} (hs:s.st=((st++loc)++ext)++new) (hd:s.df=(st.length+k)::ds) (ho:loc[k]? = some .dfr) (h:ARet E fn R ⟨s.t,((st++loc.set k .dead)++ext)++new,ds⟩):ARet E fn R s:=
 qmp hd (by rw [hs];exact qch ho) (by rw [hs,qhr _ (lt_of_getElem? ho)];exact h)
@[reducible] def q8q (F : LoopState → Option Code → AObj) (st : List AObj) (own : AObj) (I : List AObj → Prop) (D : Code → List AObj → Prop) : Exit → AS → Prop
 | .normal,s=>∃ l ext new,s.st=((st++(l++[.dfr,F .busy none,own]))++ext)++new∧I l
 | .ret,s=>∃ l ext new,s.st=((st++(l++[.dfr,F .busy none,own]))++ext)++new∧D .ret l
 | .exit id,s=>∃ l ext new,s.st=((st++(l++[.dfr,F .busy none,own]))++ext)++new∧D (.exit id) l
 | _,_=>False
theorem q0v {E:Env} {o:Nat} {xs:List AV} {st st':List AObj} {R:Bool→List AObj→Prop} (e:st=st') (h:xk E o xs st R):xk E o xs st' R:=e▸h
theorem qcy {st l ext:List AObj} {a b c:AObj} {n:Nat} (hl:l.length=n):(((st++(l++[a,b,c]))++ext))[st.length+(n+1)]? = some b:=by
 subst hl;rw [List.append_assoc,List.append_assoc,List.getElem?_append_right (by omega),Nat.add_sub_cancel_left,List.getElem?_append_right (by omega)];simp
theorem qen {st l ext:List AObj} {a b c y:AObj} {n:Nat} (hl:l.length=n):((st++(l++[a,b,c]))++ext).set (st.length+(n+1)) y=(st++(l++[a,y,c]))++ext:=by
 subst hl;rw [List.append_assoc,List.append_assoc,List.set_append_right _ _ (by omega),Nat.add_sub_cancel_left,List.set_append_right _ _ (by omega)];simp
theorem q9z {E:Env} {N:Nat} {t:Nat→AV} {ps:Array Tmp} {asg body:Code} {st l ext:List AObj} {own:AObj} {n:Nat} {xs:List AV} {F:LoopState→Option Code→AObj} {I:List AObj→Prop} {D:Code→List AObj→Prop} (hF:qis F N t ps asg body) (hl:l.length=n) (hps:ps.size=xs.length)
  (hI:∀ l,I l→l.length=n) (hD:∀ c l,D c l→l.length=n)
  (h:∀ rd,AWp E (some rd) N asg (only fun s1=>∃ new,s1.st=((st++(l++[.dfr,F .ready none,own]))++ext)++new∧s1.df=[]∧AWp E (some rd) N body (q8q F st own I D) ⟨s1.t,((st++(l++[.dfr,F .busy none,own]))++ext)++new,[]⟩) ⟨qji t (ps.toList.zip xs),((st++(l++[.dfr,F .ready none,own]))++ext)++[],[]⟩) :
  xk E (st.length+(n+1)) xs ((st++(l++[.dfr,F .ready none,own]))++ext) fun b st2=>∃ l' ext',(b=true→st2=(st++(l'++[.dfr,F .ready none,own]))++ext'∧I l')∧(b=false→∃ c,st2=(st++(l'++[.dfr,F .done (some c),own]))++ext'∧D c l'):=by
 refine qkr hF (qcy hl) hps fun rd=>?_;have h:=h rd;rw [List.append_nil] at h;refine h.mono fun e s1 hq=>?_
 cases e with
 |normal=>
  obtain⟨new,h1,h2,h3⟩:=hq;refine⟨by rw [h1,List.append_assoc];exact qcy hl,h2,?_⟩
  have e:s1.st.set (st.length+(n+1)) (F .busy none)=((st++(l++[.dfr,F .busy none,own]))++ext)++new:=by
   rw [h1,List.append_assoc,qen hl,List.append_assoc _ ext]
  rw [e];refine h3.mono fun e s2 o6=>?_
  cases e with
  |normal=>
   obtain⟨l',ext',new',k1,k2⟩:=o6
   exact⟨by rw [k1,List.append_assoc];exact qcy (hI _ k2),l',ext'++new',fun _=>⟨by rw [k1,List.append_assoc,qen (hI _ k2)],k2⟩,nofun⟩
  |ret=>
   obtain⟨l',ext',new',k1,k2⟩:=o6
   exact⟨by rw [k1,List.append_assoc];exact qcy (hD _ _ k2),l',ext'++new',nofun,fun _=>⟨_,by rw [k1,List.append_assoc,qen (hD _ _ k2)],k2⟩⟩
  |exit id=>
   obtain⟨l',ext',new',k1,k2⟩:=o6
   exact⟨by rw [k1,List.append_assoc];exact qcy (hD _ _ k2),l',ext'++new',nofun,fun _=>⟨_,by rw [k1,List.append_assoc,qen (hD _ _ k2)],k2⟩⟩
  | _=>exact o6.elim
 | _=>exact hq.elim
end Go.Av
namespace Go.Pl
open Go Go.Proofs
abbrev Fld:=qa×qa
def qd2 (s:qa):Prop:=∀ c∈s,xp c
instance (s:qa):Decidable (qd2 s):=inferInstanceAs (Decidable (∀ c∈s,xp c))
def wx (s:qa):qa:=if qd2 s∨s.head? = some 46 then 46::s else s
def vl (key p:qa):qa:=key++[58]++if p=[] then [] else [32]++p
def jm (f:Fld):List qa:=vl f.1 ((zp f.2).headD [])::(zp f.2).tail.map fun s=>[32]++wx s
def zg (ls:List qa):qa:=ls.flatMap fun s=>s++[10]
def ke (xs:List Fld):qa:=xs.flatMap fun f=>zg (jm f)
def vo (f:Fld):Int:=if ¬ qdc f.1 then 5 else if 1000<f.2.length then 6 else 0
def j6 (f:Fld):Prop:=qdc f.1∧f.2.length≤1000
instance (f:Fld):Decidable (j6 f):=inferInstanceAs (Decidable (_∧_))
theorem qa7 (f:Fld):vo f=0↔j6 f:=by
 unfold vo j6;by_cases h:qdc f.1
 ·by_cases h2:1000<f.2.length
  ·simp [h,h2]
  ·simp [h,h2];omega
 ·simp [h]
def ya (c:UInt8) (l:qa):qa:=if l.head? = some c then l.drop 1 else l
theorem qt9 (c:UInt8) (l:qa):Lib.trimPrefix l [c]=ya c l:=by
 unfold Lib.trimPrefix ya;rw [qmg];simp
def qah (l:qa) (r:List qa):qa:=ya 32 (yj l)++r.flatMap fun s=>[10]++ya 46 (s.drop 1)
def qqy (ls:List qa):Prop:=ls≠[]∧qs (ls.headD [])=4∧∀ s∈ls.tail,qs s=3
instance (ls:List qa):Decidable (qqy ls):=inferInstanceAs (Decidable (_∧_∧_))
def jr (ls:List qa):Fld×Int:=
 if qqy ls then
  if 1000<(qah (ls.headD []) ls.tail).length then (([],[]),6) else ((j7 (ls.headD []),qah (ls.headD []) ls.tail),0)
 else (([],[]),2)
theorem qln (l:qa):zp l≠[]:=by
 by_cases h:10∈l
 ·rw [qbb h];simp
 ·rw [qbc h];simp
theorem qso (l:qa):zp l=(zp l).headD []::(zp l).tail:=by
 cases h:zp l with
 |nil=>exact absurd h (qln l)
 |cons a r=>rfl
theorem qlo:∀ (n:Nat) (l:qa),l.length≤n→(zp l).headD []++(zp l).tail.flatMap (fun s=>[10]++s)=l
 |n,l,hn=>by
  by_cases h:10∈l
  ·rw [qbb h]
   have b9:l≠[]:=fun e=>by subst e;simp at h
   have d9:=x6 (c:=10) b9
   cases n with
   |zero=>omega
   |succ n=>
    have ih:=qlo n (past 10 l) (by omega);simp only [List.headD_cons,List.tail_cons];rw [qso (past 10 l)];simp only [List.flatMap_cons];rw [List.append_assoc,ih];have:=qaa h;simp [← this]
  ·rw [qbc h];simp
theorem qe5 (l:qa):∀ x∈zp l,10∉x:=fun x hx=>(qgs l.length l (Nat.le_refl _) x hx).2
theorem qpf (l:qa):∀ x∈zp l,x.length≤l.length:=fun x hx=>(qgs l.length l (Nat.le_refl _) x hx).1
theorem qp5 (l:qa):(zp l).headD []∈zp l:=by
 have h:=qln l
 cases e:zp l with
 |nil=>exact absurd e h
 |cons a r=>simp
theorem q1v (s:qa):ya 46 (wx s)=s:=by
 unfold wx ya;by_cases h:qd2 s∨s.head? = some 46
 ·rw [if_pos h];simp
 ·rw [if_neg h,if_neg (fun h'=>h (.inr h'))]
theorem qt4 (s:qa):¬ qd2 (wx s):=by
 unfold wx;by_cases h:qd2 s∨s.head? = some 46
 ·rw [if_pos h]
  intro h';have:=h' 46 (by simp);revert this;decide
 ·rw [if_neg h]
  exact fun h'=>h (.inl h')
theorem qs3 {s:qa} (h:10∉s):10∉wx s:=by
 unfold wx;split
 ·simp [h]
 ·exact h
theorem qvz (s:qa):(wx s).length≤s.length+1:=by
 unfold wx;split <;> simp
theorem qva (s:qa) (h:10∉s):qs ([32]++wx s)=3:=by
 have hn:=qs3 h;have hb:=qt4 s;unfold qs;have i3:10∉([32]++wx s):=by simp [hn]
 rw [if_neg i3,if_neg (fun h'=>hb fun c hc=>h' c (by simp [hc])),if_neg (by simp),if_pos ⟨32,by simp,.inl rfl⟩]
theorem qjv {k r:qa} (h:58∉k):j7 (k++[58]++r)=k:=by
 unfold j7
 induction k with
 |nil=>simp
 |cons a k ih=>
  simp only [List.mem_cons,not_or] at h;have:(58:UInt8)≠a:=h.1;simp only [List.cons_append,List.takeWhile_cons];rw [if_pos (by simpa using fun e=>this e.symm)];rw [ih h.2]
theorem qz0 {k r:qa} (h:58∉k):yj (k++[58]++r)=r:=by
 unfold yj;rw [qjv h];rw [List.drop_append_of_le_length (by simp)];simp
theorem qja {k:qa} (h:qdc k):∃ c,k.head? = some c∧¬ xp c∧c≠35:=by
 obtain⟨h1,h2,h3,h4,h5,h6⟩:=h
 cases k with
 |nil=>exact absurd rfl h1
 |cons a r=>exact⟨a,rfl,fun hb=>h3 ⟨a,rfl,hb⟩,fun e=>h4 (by simp [e])⟩
theorem qu9 {k p:qa} (h:qdc k) (hp:10∉p):qs (vl k p)=4:=by
 obtain⟨c,hc,hb,h35⟩:=qja h;have hk10:10∉k:=h.2.2.2.2.2;have hk58:58∉k:=h.2.2.2.2.1
 have hh:(vl k p).head? = some c:=by
  unfold vl
  cases k with
  |nil=>simp at hc
  |cons a r=>simpa using hc
 have e:vl k p=k++[58]++(if p=[] then [] else [32]++p):=rfl
 have i3:10∉vl k p:=by
  rw [e];split <;> simp [hk10,hp]
 have pk:c∈vl k p:=List.mem_of_head? hh;unfold qs;rw [if_neg i3,if_neg (fun h'=>hb (h' c pk)),if_neg (by rw [hh];simpa using h35),if_neg (fun ⟨d,hd,bw⟩=>by rw [hh] at hd;cases hd;exact hb bw)];rw [if_pos];refine⟨by rw [e];simp,?_⟩;rw [e,qjv hk58];exact h
theorem q7j (k p:qa) (h:58∉k):ya 32 (yj (vl k p))=p:=by
 unfold vl;rw [qz0 h];by_cases hp:p=[]
 ·rw [if_pos hp];simp [ya,hp]
 ·rw [if_neg hp];simp [ya]
theorem qwk {f:Fld} (h:j6 f):jr (jm f)=(f,0):=by
 obtain⟨hk,hv⟩:=h;have hk58:58∉f.1:=hk.2.2.2.2.1;have i3:=qe5 f.2
 have pz:qah (vl f.1 ((zp f.2).headD [])) ((zp f.2).tail.map fun s=>[32]++wx s)=f.2:=by
  unfold qah;rw [q7j _ _ hk58]
  have:((zp f.2).tail.map fun s=>[32]++wx s).flatMap (fun s=>[10]++ya 46 (s.drop 1))=(zp f.2).tail.flatMap (fun s=>[10]++s):=by
   rw [List.flatMap_map];congr 1;funext s;simp [q1v]
  rw [this,qlo _ _ (Nat.le_refl _)]
 unfold jr jm;rw [if_pos]
 ·simp only [List.headD_cons,List.tail_cons]
  refine (if_neg (by rw [pz];omega)).trans ?_;have:j7 (vl f.1 ((zp f.2).headD []))=f.1:=qjv hk58;rw [this,pz]
 ·refine⟨by simp,?_,?_⟩
  ·simp only [List.headD_cons]
   exact qu9 hk (i3 _ (qp5 _))
  ·intro s hs
   simp only [List.tail_cons,List.mem_map] at hs;obtain⟨x,hx,rfl⟩:=hs;exact qva x (i3 x (List.mem_of_mem_tail hx))
end Go.Pl
namespace Go.Av
open Go Go.RowKit
section
variable {E : Env} {rd : Option Nat} {N : Nat} {ops : Array Oper} {K : AS → Prop} {s : AS} {rest : List Oper} {d : Option Tmp} {T : TypeId} {p : String} {af : Array Edge}
theorem qbv {t e:TypeId} {len sz:Nat} {agg:Bool} {parts:Array (Nat×Operand)} {zs cs:List AV} {st loc:List AObj} (d8:s.st=st++loc) (hu:E.P.underlying t=some (.slice e)) (ht:tyOf E.P e=some (sz,agg)) (hz:qfb E.P e len=some zs)
  (hf:qb1 (fun i=>some (i * sz,sz)) zs (vz N s parts)=some cs) (i5:Nat.ble (len * sz) 16777216=true)
  (h:AOps E rd N ops rest K (AS.put ⟨s.t,st++(loc++[.cells 0 e cs]),s.df⟩ d (.os (st.length+loc.length) 0 0 len len))):AOps E rd N ops (⟨d,.buildSlice t len parts,T,p,af,none⟩::rest) K s:=by
 refine qz rfl (qw nofun fun B0 w0 G a w _ hI=>?_);obtain⟨c',a8,h2⟩:=qj8 (d:=d) (T:=T) (p:=p) (af:=af) hI hu ht hz hf i5;have hA:=hI.agree.newCells e c' cs h2.1 h2.2;have hn:=hI.agree.n;rw [d8] at hA hn;simp only [List.append_assoc,List.length_append] at hA hn;exact⟨_,_,_,_,_,a8,G.le_new _ _ _ _,hA,.os _ _ _ _ _ _ (by simp [Gh.new,hn]) (Nat.zero_le _) (fun _=>by simp [Gh.new,hn]),h⟩
theorem zf.ownTip {B0:Nat} {w0:World} {G:Gh} {st:List AObj} {w:World} (h:zf B0 w0 G st w) {o sz len cap:Nat} {T:TypeId} {cs:List AV} {xs:List AV} (ho:st[o]? = some (.cells 0 T cs)) (hc:cs.length=cap * sz) (d5:xs.length=len) (h0:0<len) (d6:len≤cap) (nw:cap≤maxLen) (hw:∀ x∈xs,x.cells.length=sz) (p7:flat xs=cs.take (len * sz)) :
  ∃ G',G.le G'∧zf B0 w0 G' (st.set o (.tip len sz T)) w∧Rel G' (.sl sz xs (some o)) (.slice (some ⟨(G.ob o).blk,0,none⟩) len cap):=by
 subst d5;have sg:=lt_of_getElem? ho;obtain⟨g0,g1,g2,g3,c,g4,g5,g6⟩:=h.ob o _ ho;have r8:G.le (G.publish (G.ob o).blk (c.toList.take (xs.length * sz))):=G.le_publish _ _ [] [] (.inl g3)
 -- dead, published
 have key:∀ (k:Nat) (x:AObj),(st.set o .dead)[k]? = some x→x = .dead∨(k≠o∧st[k]? = some x):=fun k x hx=>by
  rcases getElem?_set' _ _ _ _ _ hx with⟨_,e⟩|e
  ·exact .inl e
  ·exact .inr e
 have dp:zf B0 w0 (G.publish (G.ob o).blk (c.toList.take (xs.length * sz))) (st.set o .dead) w:=by
  refine⟨h.below,h.hB,by simp [h.n,Gh.publish],fun b vs hb=>?_,fun k x hx=>?_,fun k k' x x' b9 hx e7 hl s4=>?_⟩
  ·simp only [Gh.publish] at hb
   by_cases e:b=(G.ob o).blk
   ·rw [if_pos e] at hb
    cases hb
    subst e;refine⟨c,T,(0,0),g4,fun i y hy=>?_⟩;rw [List.getElem?_take] at hy;split at hy
    ·simpa using hy
    ·simp at hy
   ·rw [if_neg e] at hb
    exact h.pub b vs hb
  ·rcases key k x hx with rfl | ⟨hk,hx⟩
   ·trivial
   ·refine (h.ob k x hx).mono r8 rfl (fun hl=>?_) (fun _=>rfl)
    have:=h.sep k o x _ hk hx ho hl trivial;simp [Gh.publish,this]
  ·rcases key k x hx with rfl | ⟨hk,hx⟩
   ·exact hl.elim
   ·rcases key k' x' e7 with rfl | ⟨s8,e7⟩
    ·exact s4.elim
    ·exact h.sep k k' x x' b9 hx e7 hl s4
 have hvl:(c.toList.take (xs.length * sz)).length=xs.length * sz:=by
  have:xs.length * sz≤cap * sz:=Nat.mul_le_mul_right _ d6;simp;omega
 obtain⟨s9,fb⟩:=dp.setTip (t:=o) (n:=0) (n':=xs.length) (k:=(G.ob o).blk) (cap:=c.size) (sz:=sz) (T:=T) (c:=c) (vs:=c.toList.take (xs.length * sz)) (by simp [sg]) g0 g1 h0 g4 (by simp [Gh.publish]) hvl rfl g2 (fun k x hx hl=>by
  rcases key k x hx with rfl | ⟨hk,hx⟩
  ·exact hl.elim
  ·exact h.sep k o x _ hk hx ho hl trivial)
 rw [List.set_set] at fb;refine⟨_,r8.trans s9,fb,?_⟩;have hgn:o<G.n:=by rw [h.n];exact sg
 refine .sl sz xs (some o) (G.ob o).blk 0 cap (c.toList.take (xs.length * sz)) (by simp [Gh.setOb,Gh.publish]) hw (by rw [p7,hvl];simp;omega) (fun i x y h1 h2=>?_) (fun t ht=>?_) (by omega)
 ·rw [p7] at h1
  rw [Nat.zero_add] at h2;rw [List.getElem?_take] at h1 h2;split at h1
  ·rename_i hi
   rw [if_pos hi] at h2;exact ((g6 i x y h1 (by simpa using h2)).mono r8).mono s9
  ·simp at h1
 ·simp only [Option.some.injEq] at ht
  subst ht;refine⟨by simpa [Gh.setOb,Gh.publish] using hgn,by omega,by simp [Gh.setOb],fun _=>⟨by simp [Gh.setOb],rfl,by simp [Gh.setOb,← g5,hc],nw,by omega⟩⟩
theorem Inv.osTip {B0:Nat} {w0:World} {G:Gh} {a:Act} {w:World} (h:Inv B0 w0 N G s a w) {i o sz len cap:Nat} {T':TypeId} {cs xs:List AV} (hi:s.t i = .os o 0 0 len cap) (ho:s.st[o]? = some (.cells 0 T' cs)) (hc:cs.length=cap * sz) (d5:xs.length=len) (h0:0<len) (d6:len≤cap) (nw:cap≤maxLen) (hw:∀ x∈xs,x.cells.length=sz) (p7:flat xs=cs.take (len * sz)) :
  ∃ G',G.le G'∧Inv B0 w0 N G' ⟨Av.put s.t i (.sl sz xs (some o)),s.st.set o (.tip len sz T'),s.df⟩ a w:=by
 obtain⟨G',hG,hA,hR⟩:=h.agree.ownTip ho hc d5 h0 d6 nw hw p7;obtain⟨_,g1,_⟩:=h.agree.ob o _ ho;refine⟨G',hG,hA,h.defers_mono hG,h.size,fun j y hy=>?_⟩;have hj:=h.tmps j y hy;by_cases e:j=i
 ·subst e
  simp only [wz];rw [hi] at hj
  cases hj with
  |os _ _ _ _ b _ hn hv hb=>
   have hb:=hb g1;subst hb;exact hR
 ·simp only
  rw [y3 _ _ _ _ e];exact hj.mono hG
theorem q6d {c:Code} {Q:Exit→AS→Prop} (i:Nat) {o sz len cap:Nat} {T':TypeId} {cs xs:List AV} (hi:s.t i = .os o 0 0 len cap) (ho:s.st[o]? = some (.cells 0 T' cs)) (hc:cs.length=cap * sz) (d5:xs.length=len) (h0:0<len) (d6:len≤cap) (nw:cap≤maxLen) (hw:∀ x∈xs,x.cells.length=sz) (p7:flat xs=cs.take (len * sz))
  (h:AWp E rd N c Q ⟨Av.put s.t i (.sl sz xs (some o)),s.st.set o (.tip len sz T'),s.df⟩):AWp E rd N c Q s:=
 ⟨fun B0 w0 G a w hL hI=>let ⟨G1,h1,h2⟩:=hI.osTip hi ho hc d5 h0 d6 nw hw p7;wpIn_mono (h.run B0 w0 _ a w hL h2) fun _ _ _ ⟨G',s',hG,k1,k2⟩=>⟨G',s',h1.trans hG,k1,k2⟩⟩
theorem q3t {l:List Oper} (i:Nat) {o sz len cap:Nat} {T':TypeId} {cs xs:List AV} (hi:s.t i = .os o 0 0 len cap) (ho:s.st[o]? = some (.cells 0 T' cs)) (hc:cs.length=cap * sz) (d5:xs.length=len) (h0:0<len) (d6:len≤cap) (nw:cap≤maxLen) (hw:∀ x∈xs,x.cells.length=sz) (p7:flat xs=cs.take (len * sz))
  (h:AOps E rd N ops l K ⟨Av.put s.t i (.sl sz xs (some o)),s.st.set o (.tip len sz T'),s.df⟩):AOps E rd N ops l K s:=
 ⟨fun B0 w0 G a w hL hI Q hQ=>let ⟨G1,h1,h2⟩:=hI.osTip hi ho hc d5 h0 d6 nw hw p7;h.run B0 w0 _ a w hL h2 Q fun G' s' a' w' hG k1 k2=>hQ G' s' a' w' (h1.trans hG) k1 k2⟩
theorem Inv.osPub {B0:Nat} {w0:World} {G:Gh} {a:Act} {w:World} (h:Inv B0 w0 N G s a w) {i o ver off sz len cap:Nat} {T':TypeId} {cs xs:List AV} (hi:s.t i = .os o ver off len cap) (ho:s.st[o]? = some (.cells ver T' cs)) (d5:xs.length=len) (d6:len≤cap) (hw:∀ x∈xs,x.cells.length=sz) (hin:off+len * sz≤cs.length) (p7:flat xs=(cs.drop off).take (len * sz)) :
  ∃ G',G.le G'∧Inv B0 w0 N G' ⟨Av.put s.t i (.sl sz xs none),s.st.set o .dead,s.df⟩ a w:=by
 obtain⟨vs,r8,hA,hv,hp,hl,hr⟩:=h.agree.pubOb ho;refine⟨_,r8,hA,h.defers_mono r8,h.size,fun j y hy=>?_⟩;have hj:=h.tmps j y hy;by_cases e:j=i
 ·subst e
  simp only [wz];rw [hi] at hj
  cases hj with
  |os _ _ _ _ b _ hn bv hb=>
   have hb:=hb hv;subst hb;rw [← d5];refine .sl sz xs none _ off cap vs hp hw (by rw [p7];simp;omega) (fun k x y hx hy=>?_) (fun t ht=>by simp at ht) (by omega);rw [p7,List.getElem?_take] at hx;split at hx
   ·rw [List.getElem?_drop] at hx
    exact hr _ x y hx hy
   ·simp at hx
 ·simp only
  rw [y3 _ _ _ _ e];exact hj.mono r8
theorem q54 {l:List Oper} (i:Nat) {x r:AV} (hi:s.t i=x) (hw:∀ G v,Rel G x v→Rel G r v) (h:AOps E rd N ops l K ⟨Av.put s.t i r,s.st,s.df⟩):AOps E rd N ops l K s:=
 ⟨fun B0 w0 G a w hL hI Q hQ=>h.run B0 w0 G a w hL ⟨hI.agree,hI.defers,hI.size,fun j y hy=>by
  have hj:=hI.tmps j y hy;by_cases e:j=i
  ·subst e;simp only [wz];rw [hi] at hj;exact hw G y hj
  ·simp only;rw [y3 _ _ _ _ e];exact hj⟩ Q hQ⟩
theorem qsy {P:Program} {t e:TypeId} {sz:Nat} {agg:Bool} (hu:P.underlying t=some (.slice e)) (ht:tyOf P e=some (sz,agg)) (a:Option Addr) (len cap:Nat) (lo hi:Option Value) (i j:Nat) (w:World)
  (ck:match lo with|none=>i=0|some v=>∃ k,v = .int k (i:Int)) (bg:match hi with|none=>j=len|some v=>(∃ k,v = .int k (j:Int))∧j≤cap) (h1:i≤j) :
  (Instr.slice t (.slice a len cap) lo hi none).run P w = .ok (.slice (if cap=i then a else a.map (·.add (i * sz))) (j - i) (cap - i)) w:=by
 have hs:=(vg ht w).1
 cases lo with
 |none=>
  simp only at ck;subst ck
  cases hi with
  |none=>
   simp only at bg;subst bg
   simp [Instr.slice,run_underlying hu,Instr.sliceBounds,hs]
  |some v=>
   obtain⟨⟨k,rfl⟩,h2⟩:=bg
   simp [Instr.slice,run_underlying hu,Instr.sliceBounds,Instr.sliceBound,asIntOf,hs,h2]
 |some u=>
  obtain⟨k',rfl⟩:=ck
  cases hi with
  |none=>
   simp only at bg;subst bg
   simp [Instr.slice,run_underlying hu,Instr.sliceBounds,Instr.sliceBound,asIntOf,hs,h1]
  |some v=>
   obtain⟨⟨k,rfl⟩,h2⟩:=bg;simp [Instr.slice,run_underlying hu,Instr.sliceBounds,Instr.sliceBound,asIntOf,hs,h1,h2]
theorem qsu {G:Gh} {sz:Nat} {xs:List AV} {tip:Option Nat} {a:Option Addr} {len cap:Nat} (h:Rel G (.sl sz xs tip) (.slice a len cap)) {i j:Nat} (h1:i≤j) (h2:j≤xs.length) :
  len=xs.length∧len≤cap∧Rel G (.sl sz ((xs.take j).drop i) none) (.slice (if cap=i then a else a.map (·.add (i * sz))) (j - i) (cap - i)):=by
 cases h with
 |sl0=>
  simp at h2;subst h2;have:i=0:=by omega
  subst this;refine⟨rfl,Nat.zero_le _,?_⟩;simp
  exact .sl0 sz none _ _ (by simp)
 |sl _ _ _ b off cap pub hp hw d5 hr ht m9=>
  refine⟨rfl,m9,?_⟩;have hl:((xs.take j).drop i).length=j - i:=by simp;omega
  by_cases cd:j=i
  ·subst cd
   have e:(xs.take j).drop j=[]:=List.length_eq_zero_iff.1 (by rw [hl];omega);rw [e,Nat.sub_self];exact .sl0 sz none _ _ (by simp)
  ·have b9:cap≠i:=by omega
   rw [if_neg b9];simp only [Option.map_some];have dq:Addr.add ⟨b,off,none⟩ (i * sz)=⟨b,off+i * sz,none⟩:=Addr.add_lit ..;rw [dq,← hl];have r9:∀ x∈(xs.take j).drop i,x.cells.length=sz:=fun x hx=>hw x (List.mem_of_mem_take (List.mem_of_mem_drop hx));have gm:(flat xs).length=xs.length * sz:=z6 hw
   have bc:flat xs=flat (xs.take i)++flat ((xs.take j).drop i)++flat (xs.drop j):=by
    have e:xs.take i++(xs.take j).drop i=xs.take j:=by
     conv=>rhs;rw [← List.take_append_drop i (xs.take j),List.take_take,Nat.min_eq_left h1]
    rw [← xe,← xe,e,List.take_append_drop]
   have hti:(flat (xs.take i)).length=i * sz:=by
    rw [z6 (fun x hx=>hw x (List.mem_of_mem_take hx)),List.length_take,Nat.min_eq_left (by omega)]
   have hmid:(flat ((xs.take j).drop i)).length=(j - i) * sz:=by rw [z6 r9,hl]
   refine .sl sz _ none b (off+i * sz) (cap - i) pub hp r9 ?_ (fun k x y hx hy=>?_) (fun t ht=>by simp at ht) (by rw [hl];omega)
   ·have:=congrArg List.length bc
    simp only [List.length_append] at this;omega
   ·refine hr (i * sz+k) x y ?_ (by rw [← hy];congr 1;omega)
    have hk:=lt_of_getElem? hx;rw [bc,List.append_assoc,List.getElem?_append_right (by omega),hti,Nat.add_sub_cancel_left,List.getElem?_append_left hk];exact hx
theorem q0r {x:Operand} {t e:TypeId} {lo hi:Option Operand} {sz:Nat} {agg:Bool} {xs ys:List AV} {tip:Option Nat} {i j:Nat} (hx:qg N s x = .sl sz xs tip) (hu:E.P.underlying t=some (.slice e)) (ht:tyOf E.P e=some (sz,agg))
  (ck:match lo with|none=>i=0|some y=>∃ k,qg N s y = .v (.int k (i:Int))) (bg:match hi with|none=>j=xs.length|some y=>∃ k,qg N s y = .v (.int k (j:Int))) (h1:i≤j) (h2:j≤xs.length) (hy:(xs.take j).drop i=ys)
  (h:AOps E rd N ops rest K (s.put d (.sl sz ys none))):AOps E rd N ops (⟨d,.slice t x lo hi none,T,p,af,none⟩::rest) K s:=by
 subst hy;refine qz rfl (qw nofun fun B0 w0 G a w _ hI=>?_);have he:=hI.eval_of hx;generalize hv:a.eval x=v at he;have gb:∃ b len cap,v = .slice b len cap:=by cases he <;> exact⟨_,_,_,rfl⟩
 obtain⟨b,len,cap,rfl⟩:=gb;obtain⟨hl,hlc,hr⟩:=qsu he h1 h2;refine⟨_,w,G,_,s.st,?_,.refl G,hI.agree,hr,h⟩
 have a8:=qsy hu ht b len cap (lo.map a.eval) (hi.map a.eval) i j w (by
  cases lo with
  |none=>exact ck
  |some y=>obtain⟨k,hy⟩:=ck;exact⟨k,hI.evalv hy⟩) (by
  cases hi with
  |none=>simp only at bg;simp only [Option.map_none];omega
  |some y=>obtain⟨k,hy⟩:=bg;exact⟨⟨k,hI.evalv hy⟩,by omega⟩) h1
 generalize a.eval = ρ at hv a8;simp only [execOp,hv];simp [Instr.sliceAt,run_underlying hu,a8]
theorem qj4 {x y:Operand} {t e:TypeId} {sz:Nat} {agg:Bool} {xs ys:List AV} {tip:Option Nat} {k:IntKind} {i:Nat} (hx:qg N s x = .sl sz xs tip) (hy:qg N s y = .v (.int k (i:Int))) (hu:E.P.underlying t=some (.slice e)) (ht:tyOf E.P e=some (sz,agg)) (h1:i≤xs.length) (hz:xs.drop i=ys)
  (h:AOps E rd N ops rest K (s.put d (.sl sz ys none))):AOps E rd N ops (⟨d,.slice t x (some y) none none,T,p,af,none⟩::rest) K s:=
 q0r (i:=i) (j:=xs.length) hx hu ht ⟨k,hy⟩ rfl h1 (Nat.le_refl _) (by rw [List.take_length];exact hz) h
end
end Go.Av
namespace Go.Av
open Go Go.RowKit
inductive Vec (sz:Nat) (T:TypeId) (o:Nat) (xs:List AV):AV→AObj→Prop
 |nil (h:xs=[]):Vec sz T o xs zj (.tip 0 sz T)
 |os (ver cap:Nat) (pad:List AV) (hl:(flat xs++pad).length=cap * sz) (hw:∀ x∈xs,x.cells.length=sz) (d6:xs.length≤cap) (nw:cap≤maxLen):Vec sz T o xs (.os o ver 0 xs.length cap) (.cells ver T (flat xs++pad))
section
variable {B0 : Nat} {w0 : World} {G : Gh} {st : List AObj} {w : World}
theorem zf.setCells (h:zf B0 w0 G st w) {t k cap v':Nat} {T:TypeId} {cs:List AV} (ht:st[t]? = some .dead) (hraw:(G.ob t).raw=false) (bf:(G.ob t).ver<v')
  {c:Array Value} (hc:w.heap[k]? = some (.cells c T (0,0))) (hp:G.pub k=none) (hl:cs.length=c.size) (hr:∀ (i:Nat) (x:AV) (y:Value),cs[i]? = some x→c[i]? = some y→Rel G x y) (hk:B0≤k) (hs:∀ o x,st[o]? = some x→x.live→(G.ob o).blk≠k) :
  G.le (G.setOb t ⟨v',k,cap,false⟩)∧zf B0 w0 (G.setOb t ⟨v',k,cap,false⟩) (st.set t (.cells v' T cs)) w:=by
 have d6:=G.le_setOb t ⟨v',k,cap,false⟩ bf hraw;have cw:∀ o,o≠t→(G.setOb t ⟨v',k,cap,false⟩).ob o=G.ob o:=fun o ho=>by simp [Gh.setOb,ho]
 have bm:(G.setOb t ⟨v',k,cap,false⟩).ob t=⟨v',k,cap,false⟩:=by simp [Gh.setOb]
 refine⟨d6,h.below,h.hB,by simp [h.n,Gh.setOb],h.pub,fun o x hx=>?_,fun o o' x x' b9 hx e7 u0 lq=>?_⟩
 ·rcases getElem?_set' _ _ _ _ _ hx with⟨rfl,rfl⟩ | ⟨ho,hx⟩
  ·exact⟨by rw [bm],by rw [bm],by rw [bm];exact hk,by rw [bm];exact hp,c,by rw [bm];exact hc,hl,fun i x y h1 h2=>(hr i x y h1 h2).mono d6⟩
  ·exact (h.ob o x hx).mono d6 (cw o ho) (fun _=>rfl) (fun _=>rfl)
 ·rcases getElem?_set' _ _ _ _ _ hx with⟨e1,e2⟩ | ⟨ho,hx⟩
  ·rcases getElem?_set' _ _ _ _ _ e7 with⟨e3,_⟩ | ⟨d7,e7⟩
   ·exact absurd (e1.trans e3.symm) b9
   ·rw [e1,bm,cw o' d7]
    exact (hs o' x' e7 lq).symm
  ·rcases getElem?_set' _ _ _ _ _ e7 with⟨e3,_⟩ | ⟨d7,e7⟩
   ·rw [e3,bm,cw o ho]
    exact hs o x hx u0
   ·rw [cw o ho,cw o' d7]
    exact h.sep o o' x x' b9 hx e7 u0 lq
theorem y9 {G:Gh} {cs ds:List AV} {vs us:List Value} (hl:cs.length=vs.length) (h1:∀ (i:Nat) (x:AV) (y:Value),cs[i]? = some x→vs[i]? = some y→Rel G x y) (h2:∀ (i:Nat) (x:AV) (y:Value),ds[i]? = some x→us[i]? = some y→Rel G x y) :
  ∀ (i:Nat) (x:AV) (y:Value),(cs++ds)[i]? = some x→(vs++us)[i]? = some y→Rel G x y:=fun i x y hx hy=>by
 by_cases hi:i<cs.length
 ·rw [List.getElem?_append_left hi] at hx
  rw [List.getElem?_append_left (by omega)] at hy;exact h1 i x y hx hy
 ·rw [List.getElem?_append_right (by omega)] at hx
  rw [List.getElem?_append_right (by omega),← hl] at hy;exact h2 _ x y hx hy
theorem qv7 {P:Program} (hA:zf B0 w0 G st w) {tt u ty T:TypeId} {du:TypeDesc} (htt:P.underlying tt=some (.slice T)) (hu:P.underlying u=some du) (hd:qhq du)
  {sz bytes:Nat} (hT:yb P T sz bytes) {o:Nat} {xs ys:List AV} {a:AV} {ob:AObj} {v x:Value} (hV:Vec sz T o xs a ob) (ho:st[o]? = some ob) (hv:Rel G a v)
  {news:List Value} (hx:Src P w x ys.length sz news) (hys:∀ y∈ys,y.cells.length=sz) (g9:∀ (i:Nat) (a:AV) (b:Value),(flat ys)[i]? = some a→news[i]? = some b→Rel G a b)
  (t7:xs.length+ys.length≤maxLen) (dr:(xs.length+ys.length) * bytes≤140737488355328) :
  ∃ v' w' G' a' ob',(Builtin.append_ #[tt,u] ty #[v,x]).run P w = .ok v' w'∧G.le G'∧zf B0 w0 G' (st.set o ob') w'∧Rel G' a' v'∧Vec sz T o (xs++ys) a' ob':=by
 obtain⟨i,z,hi,hz,rfl,rfl,gq⟩:=hT.ex;have sg:=lt_of_getElem? ho;have htn:o<G.n:=by rw [hA.n];exact sg
 have hraw:(G.ob o).raw=false:=by
  have:=hA.ob o _ ho
  cases hV with
  |nil h=>exact this.1
  |os=>exact this.1
 have hk:=hA.kill o;have ln:(st.set o .dead)[o]? = some .dead:=qbl ho
 have i7:∀ k x,(st.set o .dead)[k]? = some x→x.live→k≠o∧st[k]? = some x:=fun k x hx hl=>by
  rcases getElem?_set' _ _ _ _ _ hx with⟨_,e⟩ | ⟨h1,h2⟩
  ·subst e;exact hl.elim
  ·exact⟨h1,h2⟩
 have o9:st.set o ob=st:=by
  apply List.ext_getElem?;intro k;by_cases e:o=k
  ·subst e;rw [List.getElem?_set_self sg];exact ho.symm
  ·rw [List.getElem?_set_ne e]
 have hfy:(flat ys).length=ys.length * i.size:=z6 hys
 have grow:∀ (base:Option Addr) (c:Nat) (olds:List Value),(Builtin.firstCells i.size xs.length (.slice base xs.length c)).run P w.drew = .ok olds.toArray w.drew→c<xs.length+ys.length→olds.length=xs.length * i.size→(∀ x∈xs,x.cells.length=i.size) →
   (∀ (j:Nat) (a:AV) (b:Value),(flat xs)[j]? = some a→olds[j]? = some b→Rel G a b)→Builtin.nextslicecap (xs.length+ys.length) c * i.bytes≤281474976710656 →
   ∃ v' w' G' a' ob',(Builtin.append_ #[tt,u] ty #[.slice base xs.length c,x]).run P w = .ok v' w'∧G.le G'∧zf B0 w0 G' (st.set o ob') w'∧Rel G' a' v'∧Vec i.size T o (xs++ys) a' ob':=by
  intro base c olds e8 hc sf hwx hrx i4;have gm:(flat xs).length=xs.length * i.size:=z6 hwx;have a8:=qe7 (ty:=ty) htt hu hd hi hz hx base xs.length c olds e8 hc (by simp only [maxLen] at t7;omega) i4;have dj:=grownCap_ge w (xs.length+ys.length) c T;have d6:=grownCap_le_maxLen w (xs.length+ys.length) c T t7;generalize grownCap w (xs.length+ys.length) c T=cap at a8 dj d6;generalize hzc:(Builtin.zeroCells z.cells (cap - (xs.length+ys.length)))=zc at a8;have sn:zc.size=(cap - (xs.length+ys.length)) * i.size:=by rw [← hzc,size_zeroCells,gq]
  have t8:Below w.heap.size w w.drew:=⟨rfl,rfl,rfl,Nat.le_refl _,fun _ _=>rfl⟩
  have nc:(flat (xs++ys)++zc.toList.map AV.v).length=(olds.toArray++news.toArray++zc).size:=by
   rw [xe];simp [gm,hfy,sf,hx.count];omega
  have dp:=(hk.fresh t8).fresh (w':=w.drew.alloc (.cells (olds.toArray++news.toArray++zc) T)) ⟨rfl,rfl,rfl,by simp [World.alloc],fun b hb=>yh _ _ _ hb⟩
  have hnp:G.pub w.heap.size=none:=by
   cases hp:G.pub w.heap.size with
   |none=>rfl
   |some vs=>exact absurd (hA.pub_lt hp) (Nat.lt_irrefl _)
  obtain⟨s9,fb⟩:=dp.setCells (t:=o) (k:=w.heap.size) (cap:=0) (v':=(G.ob o).ver+1) (T:=T) (cs:=flat (xs++ys)++zc.toList.map AV.v) ln hraw (Nat.lt_succ_self _) (xo w.drew _) hnp nc (by
   have h1:=y9 (G:=G) (cs:=flat xs) (ds:=flat ys) (vs:=olds) (us:=news) (by omega) hrx g9
   have h2:=y9 (G:=G) (cs:=flat xs++flat ys) (ds:=zc.toList.map AV.v) (vs:=olds++news) (us:=zc.toList) (by simp [gm,hfy,sf,hx.count]) h1 (fun j a b h1 h2=>by
    rw [List.getElem?_map,h2] at h1;simp at h1;subst h1
    exact .v _)
   rw [xe];intro j a b g1 g2
   exact h2 j a b g1 (by rw [← g2];simp [← Array.getElem?_toList])) hA.hB (fun k x hx hl=>by
   obtain⟨_,e7⟩:=i7 k x hx hl
   exact Nat.ne_of_lt ((hA.ob k x e7).lt hl))
  rw [List.set_set] at fb;refine⟨_,_,_,_,_,a8,s9,fb,.os o ((G.ob o).ver+1) 0 (xs.length+ys.length) w.heap.size cap (by simpa [Gh.setOb] using htn) (by simp [Gh.setOb]) (fun _=>by simp [Gh.setOb]),?_⟩
  have:=Vec.os (o:=o) (T:=T) (xs:=xs++ys) ((G.ob o).ver+1) cap (zc.toList.map AV.v) (sz:=i.size) (by
   have h1:zc.toList.length=(cap - (xs.length+ys.length)) * i.size:=by rw [← sn];simp
   rw [List.length_append,xe,List.length_append,gm,hfy,List.length_map,h1,← Nat.add_mul,← Nat.add_mul];congr 1
   omega) (fun y hy=>by
   rcases List.mem_append.1 hy with h|h
   ·exact hwx y h
   ·exact hys y h) (by simpa using dj) d6
  rw [List.length_append] at this;exact this
 cases hV with
 |nil h=>
  subst h
  cases hv with
  |v _=>
  by_cases fp:ys.length=0
  ·have hy0:ys=[]:=List.eq_nil_of_length_eq_zero fp
   subst hy0;have mg:news=[]:=List.eq_nil_of_length_eq_zero (by simpa using hx.count);subst mg;exact⟨_,_,G,_,_,qbn htt hu hd hi hx none 0 0 (Nat.le_refl _),.refl G,by rw [o9];exact hA,.v _,.nil (by simp)⟩
  ·exact grow none 0 [] (by simp [run_firstCells_none]) (by simp;omega) (by simp) (by simp) (by simp [flat]) (by
    simp only [List.length_nil,Nat.zero_add] at dr ⊢;rw [nextslicecap_zero (by omega)]
    omega)
 |os ver cap pad hl hw d6 nw=>
  obtain⟨g0,g1,g2,g3,c,g4,g5,g6⟩:=hA.ob o _ ho;have gm:(flat xs).length=xs.length * i.size:=z6 hw
  cases hv with
  |os _ _ _ _ b _ hn bv hb=>
  have hb:=hb g1;subst hb;have nj:c.size=cap * i.size:=by rw [← g5,hl]
  by_cases fp:ys.length=0
  ·have hy0:ys=[]:=List.eq_nil_of_length_eq_zero fp
   subst hy0;have mg:news=[]:=List.eq_nil_of_length_eq_zero (by simpa using hx.count);subst mg;exact⟨_,_,G,_,_,qbn htt hu hd hi hx _ xs.length cap d6,.refl G,by rw [o9];exact hA,.os _ _ _ _ _ _ hn bv (fun _=>rfl),by rw [List.append_nil];exact .os ver cap pad hl hw d6 nw⟩
  ·by_cases i9:xs.length+ys.length≤cap
   ·have hmul:(xs.length+ys.length) * i.size≤cap * i.size:=Nat.mul_le_mul_right _ i9
    rw [Nat.add_mul] at hmul;have i4:xs.length * i.size+news.length≤c.size:=by rw [hx.count,nj];omega
    have a8:=qil (ty:=ty) htt hu hd hi hx (G.ob o).blk xs.length cap c g4 i9 i4
    have fc:pad.length=cap * i.size - xs.length * i.size:=by
     have:=hl;rw [List.length_append,gm] at this;omega
    have fb:=hA.setRow (cs':=flat (xs++ys)++pad.drop (ys.length * i.size)) (c':=(c.toList.take (xs.length * i.size)++news++c.toList.drop (xs.length * i.size+news.length)).toArray) ho (by
     rw [xe];simp [gm,hfy,hx.count,fc,nj,Nat.min_eq_left d6]
     omega) (by
     have e1:∀ (j:Nat) (a:AV) (b:Value),(flat xs)[j]? = some a→(c.toList.take (xs.length * i.size))[j]? = some b→Rel G a b:=fun j a b h1 h2=>by
      have hj:=lt_of_getElem? h1;rw [List.getElem?_take_of_lt (by omega)] at h2;exact g6 j a b (by rw [List.getElem?_append_left hj];exact h1) (by simpa using h2)
     have e2:=y9 (G:=G) (cs:=flat xs) (ds:=flat ys) (vs:=c.toList.take (xs.length * i.size)) (us:=news) (by simp;omega) e1 g9
     have e3:=y9 (G:=G) (cs:=flat xs++flat ys) (ds:=pad.drop (ys.length * i.size)) (vs:=c.toList.take (xs.length * i.size)++news) (us:=c.toList.drop (xs.length * i.size+news.length)) (by
      simp [gm,hfy,hx.count]
      omega) e2 (fun j a b h1 h2=>by
      rw [List.getElem?_drop] at h1 h2;refine g6 (xs.length * i.size+news.length+j) a b ?_ (by simpa using h2);rw [List.getElem?_append_right (by rw [gm];omega),gm,← h1,hx.count];congr 1
      omega)
     rw [xe];intro j a b h1 h2
     exact e3 j a b h1 (by simpa using h2))
    refine⟨_,_,G,_,_,a8,.refl G,fb,.os o ver 0 (xs.length+ys.length) _ cap hn bv (fun _=>rfl),?_⟩
    have:=Vec.os (o:=o) (T:=T) (xs:=xs++ys) ver cap (pad.drop (ys.length * i.size)) (sz:=i.size) (by
     rw [List.length_append,xe,List.length_append,gm,hfy,List.length_drop,fc]
     omega) (fun y hy=>by
     rcases List.mem_append.1 hy with h|h
     ·exact hw y h
     ·exact hys y h) (by simpa using i9) nw
    rw [List.length_append] at this;exact this
   ·refine grow (some ⟨(G.ob o).blk,0,none⟩) cap (c.toList.take (xs.length * i.size)) ?_ (by omega) (by
     have:xs.length * i.size≤cap * i.size:=Nat.mul_le_mul_right _ d6;simp
     omega) hw (fun j a b h1 h2=>?_) (growslice_fits (by omega) dr)
    ·refine run_firstCells_some w.drew i.size xs.length ⟨(G.ob o).blk,0,none⟩ xs.length cap _ (by
      have:xs.length * i.size≤cap * i.size:=Nat.mul_le_mul_right _ d6;simp
      omega) fun j y hy=>?_
     have e1':w.drew.heap[(G.ob o).blk]? = some (.cells c T (0,0)):=g4;rw [Addr.add_lit];rw [List.getElem?_take] at hy;split at hy
     ·simp only [Array.getElem?_toList] at hy
      simp [World.cell?,e1',hy]
     ·simp at hy
    ·have hj:=lt_of_getElem? h1
     rw [List.getElem?_take_of_lt (by omega)] at h2;exact g6 j a b (by rw [List.getElem?_append_left hj];exact h1) (by simpa using h2)
end
section
variable {E : Env} {rd : Option Nat} {N : Nat} {ops : Array Oper} {K : AS → Prop} {s : AS} {rest : List Oper} {d : Option Tmp} {T : TypeId} {p : String} {af : Array Edge}
theorem zgo {sz:Nat} {T:TypeId} {o:Nat} {xs:List AV} {a:AV} {ob:AObj} (h:Vec sz T o xs a ob):(xs=[]∧a=zj∧ob = .tip 0 sz T)∨∃ ver cap pad,a = .os o ver 0 xs.length cap∧ob = .cells ver T (flat xs++pad)∧(flat xs++pad).length=cap * sz∧(∀ x∈xs,x.cells.length=sz)∧xs.length≤cap∧cap≤maxLen:=by
 cases h with
 |nil h=>exact .inl ⟨h,rfl,rfl⟩
 |os ver cap pad h1 h2 h3 h4=>exact .inr ⟨ver,cap,pad,rfl,rfl,h1,h2,h3,h4⟩
theorem qye {sz:Nat}:∀ {xs:List AV} {i:Nat} {x:AV},(∀ x∈xs,x.cells.length=sz)→x.cells.length=sz→i<xs.length→∀ pad,zr (flat xs++pad) (0+i * sz) x.cells=flat (xs.set i x)++pad
 | [],_,_,_,_,h,_=>by simp at h
 |y::xs,0,x,hw,hx,_,pad=>by
  have hy:=hw y (by simp);simp only [List.set_cons_zero,qbq,zr,Nat.zero_mul,Nat.zero_add,List.take_zero,List.nil_append,hx];rw [List.append_assoc,List.drop_append_of_le_length (by omega),← hy,List.drop_length]
  simp
 |y::xs,i+1,x,hw,hx,h,pad=>by
  have hy:=hw y (by simp);have ih:=qye (xs:=xs) (i:=i) (x:=x) (fun z hz=>hw z (by simp [hz])) hx (by simpa using h) pad;simp only [List.set_cons_succ,qbq,zr,Nat.zero_add] at ih ⊢;have e:(i+1) * sz=y.cells.length+i * sz:=by rw [Nat.add_mul,hy];omega
  simp only [List.append_assoc] at ih ⊢;rw [e,List.take_length_add_append,show y.cells.length+i * sz+x.cells.length=y.cells.length+(i * sz+x.cells.length) by omega,List.drop_length_add_append];simp only [List.append_assoc];rw [ih]
theorem q3e {sz:Nat} {xs pad:List AV} (hw:∀ x∈xs,x.cells.length=sz) {i:Nat} {x:AV} (hi:xs[i]? = some x):((flat xs++pad).drop (i * sz)).take sz=x.cells:=by
 have d9:=lt_of_getElem? hi;have hx:=hw x (List.mem_of_getElem? hi);apply List.ext_getElem?;intro j;rw [List.getElem?_take];by_cases hj:j<sz
 ·rw [if_pos hj,List.getElem?_drop,← qk3 hw hi j hj]
  have d6:(i+1) * sz≤xs.length * sz:=Nat.mul_le_mul_right _ d9;rw [Nat.succ_mul] at d6;rw [List.getElem?_append_left (by rw [z6 hw];omega)]
 ·rw [if_neg hj,List.getElem?_eq_none (by omega)]
end
structure Chg (N:Nat) (s s':AS):Prop where
 run:∀ (B0:Nat) (w0:World) (G:Gh) (a:Act) (w:World),Inv B0 w0 N G s a w→∃ G',G.le G'∧Inv B0 w0 N G' s' a w
theorem Chg.trans {N:Nat} {s s' s'':AS} (h:Chg N s s') (k:Chg N s' s''):Chg N s s'':=⟨fun B0 w0 G a w hI=>let ⟨G1,h1,h2⟩:=h.run B0 w0 G a w hI;let ⟨G2,k1,k2⟩:=k.run B0 w0 G1 a w h2;⟨G2,h1.trans k1,k2⟩⟩
end Go.Av
namespace Go.Proofs.YtihlchbgjdkmpaaGreatDoor
open Go Go.Av Go.RowKit Go.Proofs Go.Pl
theorem q81 (text:List UInt8) (o kb ver n:Nat) (I:Nat→List UInt8→List AObj→Prop) (D:List AObj→Prop) (st l0:List AObj) (ht:text.length<4294967281) (h0:I 0 text l0)
  (hI:∀ k rest l,I k rest l→l.length=n∧(st++l)[kb]? = some (.cells ver 9 [Sv text]))
  (hY:∀ k rest l own ext,I k rest l→rest≠[]→rest.length≤text.length→xk E o [qdd k text rest] (st++(l++own::ext)) fun b st2=>∃ l' ext',st2=st++(l'++own::ext')∧(b=true→I (k+1) (past 10 rest) l')∧(b=false→D l'∧l'.length=n)) :
  qn E 154 [.yd o,.bx kb ver 0] (st++l0) fun r st'=>∃ l own ext',st'=st++(l++own::ext')∧((∃ k,I k [] l)∨D l):=by
 refine qr Tryz.func154 rfl (Nat.le_of_ble_eq_true rfl) ?_;obtain⟨hn,hb⟩:=hI 0 text l0 h0;repeat' (first|apply qm|apply q9|apply qe|apply qf|apply qh|(apply jy;exact rfl;exact rfl)|(apply z8;(iterate 11 exact rfl))|(apply yl;(iterate 3 exact rfl))|(apply yx;exact rfl;exact rfl;exact hb;exact rfl;exact rfl))
 refine v4 (fun (x:Nat×List UInt8) s=>match x with|(k,rest)=>∃ l at' ta eb ext,I k rest l∧k+rest.length≤text.length∧at'=(text.length:Int) - rest.length∧StA [(0,.yd o),(1,.bx kb ver 0),(3,.bx ((st++l0).length+0) 0 0),(4,Sv rest)] ((st++l)++(.cells 0 206 [Iv k,Iv at',Sv ta,Bv eb]::ext)) [] s) (fun x=>x.2.length) (0,text)
  ⟨l0,0,[],false,[],h0,by simp,by simp,?_⟩ ?_
 ·exact vk ⟨rfl,rfl,rfl,rfl,trivial⟩
 rintro⟨k,rest⟩ _ ⟨l,_,ta,eb,ext,hi,d6,rfl,t,rfl⟩;obtain⟨mf,cx⟩:=hI k rest l hi;have hq:(st++l).length=(st++l0).length:=by simp [hn,mf]
 repeat' (first|apply qm|apply q9|apply qe|apply qf|apply qj|apply qh|(apply zh;exact rfl;exact rfl)|(apply jv;(iterate 3 exact rfl))|(apply qc;exact rfl;apply cd_d <;> intro h)|(apply zk;(iterate 3 exact rfl))|apply qx|apply vc|(apply qk;exact Tryz.call110;exact qhz _ _ _ (by omega))|(apply qat;exact rfl;exact hq;(iterate 10 exact rfl))|(apply qbj;exact rfl;exact hq;(iterate 4 exact rfl)))
 ·refine qbi rfl (q0v (List.append_assoc st l (_::ext)).symm ((hY k rest l _ ext hi h (by omega)).mono ?_))
  rintro b _ ⟨l',ext',rfl,h1,h2⟩
  cases b
  ·skip
   rw [← List.append_assoc];repeat' (first|apply qf|(apply jb;exact rfl)|(apply qc;exact rfl;apply qkx;exact cRa)|apply qu)
   refine qo rfl (xl rfl) ⟨l',_,ext',List.append_assoc _ _ _,.inr (h2 rfl).1⟩
  ·have hi3:=h1 rfl
   obtain⟨hn3,mv⟩:=hI _ _ _ hi3;have hp:=km 10 rest;have hr0:0<rest.length:=List.length_pos_iff.2 h;have hq3:(st++l').length=(st++l0).length:=by simp [hn,hn3]
   rw [← List.append_assoc];repeat' (first|apply qm|apply qe|apply qf|apply qj|(apply jb;exact rfl)|(apply qc;exact rfl;apply qn9;exact cRa)|(apply wl;(iterate 3 exact rfl))|(apply z7;exact rfl;exact rfl;exact zn (by omega) (by omega))|(apply qa6;exact rfl;exact rfl;exact zn (by omega) (by omega))|(apply zk;(iterate 3 exact rfl))|apply qx|(apply yx;exact rfl;exact rfl;exact mv;exact rfl;exact rfl)|(apply qat;exact rfl;exact hq3;(iterate 10 exact rfl))|(apply qbj;exact rfl;exact hq3;(iterate 4 exact rfl)))
   exact⟨(k+1,past 10 rest),⟨l',_,_,_,_,hi3,by omega,rfl,vk ⟨rfl,rfl,rfl,rfl,trivial⟩⟩,by simp only;omega⟩
 ·have hr:rest=[]:=Classical.not_not.1 h
  subst hr;exact qo rfl (xl rfl) ⟨l,_,ext,List.append_assoc _ _ _,.inl ⟨k,hi⟩⟩
theorem qtf {N:Nat} {Q:Exit→AS→Prop} {s:AS} {f:Operand} {p:Tmp} {asg body:Code} {st loc:List AObj} {kb ver:Nat} (text:List UInt8) (d8:s.st=st++loc) (hx:qg N s f = .fn (.func 154) [] [.bx (st.length+kb) ver 0]) (ht:text.length<4294967281)
  (I:Nat→List UInt8→List AObj→Prop) (D:Code→List AObj→Prop) (h0:I 0 text loc)
  (hI:∀ k rest l,I k rest l→l.length=loc.length∧l[kb]? = some (.cells ver 9 [Sv text])) (hD:∀ c l,D c l→l.length=loc.length)
  (hb:∀ F own rd k rest l ext m,qis F N s.t #[p] asg body→I k rest l→rest≠[]→rest.length≤text.length→((st++(l++[.dfr,F .ready none,own]))++ext).length=m→((st++(l++[.dfr,F .busy none,own]))++ext).length=m →
   AWp E (some rd) N asg (only fun s1=>∃ new,s1.st=((st++(l++[.dfr,F .ready none,own]))++ext)++new∧s1.df=[]∧AWp E (some rd) N body (q8q F st own (I (k+1) (past 10 rest)) D) ⟨s1.t,((st++(l++[.dfr,F .busy none,own]))++ext)++new,[]⟩) ⟨put s.t p (qdd k text rest),((st++(l++[.dfr,F .ready none,own]))++ext)++[],[]⟩)
  (hn:∀ k l ext,I k [] l→Q .normal ⟨s.t,((st++(l++[.dfr,.dead]))++ext)++[],(st.length+loc.length)::s.df⟩)
  (hd:∀ c l ext,D c l→AWp E none N c Q ⟨s.t,((st++(l++[.dfr,.dead]))++ext)++[],(st.length+loc.length)::s.df⟩):AWp E none N (.rangeFunc f #[p] asg body) Q s:=by
 refine qg3 d8 hx Tryz.call154 fun F hF=>?_;refine qn.mono (q81 text (st.length+(loc.length+1)) (st.length+kb) ver (loc.length+2) (fun k rest l=>∃ l1,l=l1++[.dfr,F .ready none]∧I k rest l1) (fun l=>∃ l1 c,l=l1++[.dfr,F .done (some c)]∧D c l1) st (loc++[.dfr,F .ready none]) ht ⟨loc,rfl,h0⟩ ?_ ?_) ?_
 ·rintro k rest _ ⟨l,rfl,hi⟩
  obtain⟨h1,h2⟩:=hI k rest l hi;exact⟨by simp [h1],jh (by rw [List.getElem?_append_left (lt_of_getElem? h2)];exact h2)⟩
 ·rintro k rest _ own ext ⟨l,rfl,hi⟩ b9 d6
  obtain⟨h1,h2⟩:=hI k rest l hi;have hy:=q9z (E:=E) (st:=st) (l:=l) (ext:=ext) (own:=own) (n:=loc.length) (xs:=[qdd k text rest]) (I:=I (k+1) (past 10 rest)) (D:=D) hF h1 rfl (fun l hl=>(hI _ _ l hl).1) hD (fun rd=>hb F own rd k rest l ext _ hF hi b9 d6 rfl (by simp));have e:(st++(l++[.dfr,F .ready none,own]))++ext=st++((l++[.dfr,F .ready none])++own::ext):=by simp
  rw [e] at hy;refine hy.mono ?_;rintro b st2 ⟨l',ext',g1,g2⟩
  cases b with
  |true=>
   obtain⟨rfl,g⟩:=g1 rfl
   exact⟨l'++[.dfr,F .ready none],ext',by simp,fun _=>⟨l',rfl,g⟩,nofun⟩
  |false=>
   obtain⟨c,rfl,g⟩:=g2 rfl;exact⟨l'++[.dfr,F .done (some c)],ext',by simp,nofun,fun _=>⟨⟨l',c,rfl,g⟩,by simp [hD c l' g]⟩⟩
 ·rintro r _ ⟨_,own,ext,rfl,⟨k,l,rfl,hi⟩ | ⟨l,c,rfl,hdl⟩⟩
  ·have h1:=(hI _ _ _ hi).1
   have e:st++((l++[.dfr,F .ready none])++own::ext)=(st++(l++[.dfr,F .ready none,own]))++ext:=by simp
   rw [e];refine⟨.ready,none,nofun,qcy h1,?_⟩;rw [qen h1];have:=hn k l (own::ext) hi
   simpa using this
  ·have h1:=hD _ _ hdl
   have e:st++((l++[.dfr,F .done (some c)])++own::ext)=(st++(l++[.dfr,F .done (some c),own]))++ext:=by simp
   rw [e];refine⟨.done,some c,nofun,qcy h1,?_⟩;rw [qen h1];have:=hd c l (own::ext) hdl
   simpa using this
abbrev Ss (xs:List qa):AV:=.sl 1 (xs.map fun x=>Sv x) none
theorem qip (l m:List UInt8) (st:List AObj):qn E 112 [Sv l,Sv m] st fun r st'=>r=Sv (Lib.trimPrefix l m)∧st'=st:=
 yg (vals:= #[.string ⟨l.toArray⟩,.string ⟨m.toArray⟩]) rfl fun _ _ w _ _=>(Tryz.strings_TrimPrefix ⟨l.toArray⟩ ⟨m.toArray⟩ w).mono fun _ _ ⟨h1,h2⟩=>⟨h1,qdq h2⟩
theorem q3c (l:List UInt8) (c:UInt8) (st:List AObj):qn E 112 [Sv l,Sv [c]] st fun r st'=>r=Sv (ya c l)∧st'=st:=by
 rw [← qt9];exact qip _ _ _
theorem q5q {B0:Nat} {w0:World} {G:Gh} {st:List AObj} {w:World} (hA:zf B0 w0 G st w) {xs:List qa} {tip:Option Nat} {v:Value} (h:Rel G (.sl 1 (xs.map fun x=>Sv x) tip) v) :
  (xs=[]∧∃ a c,v = .slice a 0 c)∨∃ b off cap,v = .slice (some ⟨b,off,none⟩) xs.length cap∧b<w.heap.size∧xs.length≤cap∧∀ (j:Nat) (x:qa),xs[j]? = some x→w.cell? ⟨b,off+j,none⟩=some (.string ⟨x.toArray⟩):=by
 generalize hq:xs.map (fun x=>Sv x)=q at h
 cases h with
 |sl0 sz tip base cap ht=>exact .inl ⟨by simpa using hq,base,cap,rfl⟩
 |sl _ _ _ b off cap pub hp hw d5 hr ht m9=>
  subst hq;obtain⟨c,T,fz,hc,rm⟩:=hA.pub b pub hp;refine .inr ⟨b,off,cap,by simp,hA.pub_lt hp,by simpa using m9,fun j x hx=>?_⟩
  have p7:flat (xs.map fun x=>Sv x)=xs.map fun x=>Sv x:=by
   clear hx hr d5 hw ht m9
   induction xs with
   |nil=>rfl
   |cons a xs ih=>rw [List.map_cons,qbq,ih];rfl
  have hj:=lt_of_getElem? hx;rw [p7] at d5;simp only [List.length_map] at d5;have hy:pub[off+j]? = some (pub[off+j]'(by omega)):=List.getElem?_eq_getElem (by omega);have hrj:=hr j (Sv x) _ (by rw [p7,List.getElem?_map,hx];rfl) hy;generalize hz:pub[off+j]'(by omega)=z at hrj hy;generalize hSx:Sv x=sx at hrj
  cases hrj <;> simp_all
  subst_vars
  simp [World.cell?,hc,rm _ _ hy]
theorem q7o (xs:List qa) (tip:Option Nat) (sep:qa) (st:List AObj) (hN:xs.length≤140737488355328) (hl:(Lib.join xs sep).length≤140737488355328):qn E 97 [.sl 1 (xs.map fun x=>Sv x) tip,Sv sep] st fun r st'=>r=Sv (Lib.join xs sep)∧st'=st:=by
 refine⟨fun B0 w0 G vs w hL hA hR=>?_⟩;have hs:vs.size=2:=by have:=hR.1;simpa using this.symm
 have e0:vs[0]? = some vs[0]:=by simp [hs]
 have e1:vs[1]? = some vs[1]:=by simp [hs]
 have h0:=hR.2 0 _ _ rfl e0;have h1:=hR.2 1 _ _ rfl e1;have hv1:vs[1] = .string ⟨sep.toArray⟩:=by generalize vs[1]=y at h1;cases h1;rfl
 have hvs:vs = #[vs[0],.string ⟨sep.toArray⟩]:=by
  apply Array.ext (by simp [hs]);intro i g1 g2
  match i with
  | 0=>rfl
  | 1=>exact hv1
  |i+2=>simp [hs] at g1;omega
 rw [hvs];rcases q5q hA h0 with⟨hx,a,c,hv⟩ | ⟨b,off,cap,hv,hb,m9,bp⟩
 ·rw [hv]
  subst hx;refine (Tryz.strings_Join_none a c ⟨sep.toArray⟩ w).mono ?_;rintro e w' ⟨rfl,rfl⟩;exact⟨_,G,Sv [],st,rfl,.refl G,hA,.v _,rfl,rfl⟩
 ·rw [hv]
  have hm:(xs.map fun l:qa=>(⟨l.toArray⟩:ByteArray)).map (·.data.toList)=xs:=by simp [List.map_map,Function.comp_def]
  have hc:=Tryz.strings_Join b off cap (xs.map fun l=>⟨l.toArray⟩) ⟨sep.toArray⟩ w (fun j x hx=>by
   rw [List.getElem?_map] at hx
   cases hq:xs[j]? with
   |none=>rw [hq] at hx;simp at hx
   |some y=>rw [hq] at hx;simp at hx;subst hx;exact bp j y hq) hb (by simpa using hN) (by simpa using m9) (by rw [hm];simpa using hl)
  rw [hm] at hc;simp only [List.length_map] at hc;refine hc.mono ?_;rintro e w' ⟨rfl,hbw⟩;exact⟨_,G,Sv _,st,rfl,.refl G,hA.fresh hbw,.v _,rfl,rfl⟩
def Weak (x r:AV):Prop:=∀ (G:Gh) (v:Value),Rel G x v→Rel G r v
theorem qa3 (x:AV):Weak x x:=fun _ _ h=>h
theorem ql6 (sz:Nat) (xs:List AV) (tip:Option Nat):Weak (.sl sz xs tip) (.sl sz xs none):=fun _ _ h=>qns h
theorem qfa (sz:Nat):Weak zj (.sl sz [] none):=fun _ _ h=>qbt h
theorem qd8 {x y x' y':AV} (h1:Weak x x') (h2:Weak y y'):Weak (.tu [x,y]) (.tu [x',y']):=fun G v h=>by
 cases h with
 |tu _ vs hl hr=>
  refine .tu _ vs hl fun i a b ha hb=>?_
  match i with
  | 0=>simp at ha;subst ha;exact h1 G b (hr 0 x b rfl hb)
  | 1=>simp at ha;subst ha;exact h2 G b (hr 1 y b rfl hb)
  |i+2=>simp at ha
theorem ze6 {xs ys:List AV} (hl:xs.length=ys.length) (h:∀ (i:Nat) (x y:AV),xs[i]? = some x→ys[i]? = some y→Weak x y):Weak (.ag xs) (.ag ys):=fun G v hr=>by
 cases hr with
 |ag _ vs s4 hr=>
  refine .ag _ vs (by omega) fun i a b ha hb=>?_;have hi:=lt_of_getElem? ha;exact h i _ a (List.getElem?_eq_getElem (by omega)) ha G b (hr i _ b (List.getElem?_eq_getElem (by omega)) hb)
theorem q3v {fn:Func} {s:AS} {t u:Tmp} {x y x' y':AV} (hr:fn.results = #[.tmp t,.tmp u]) (hx:qg fn.ntmps s (.tmp t)=x) (hy:qg fn.ntmps s (.tmp u)=y) (h1:Weak x x') (h2:Weak y y'):ARes E fn s (.tu [x',y']):=
 w9 (wm hr) (by rw [hx,hy];exact qd8 h1 h2)
def errN (n:Int):AV:=if n=0 then .v .nilIface else .ifc 37 (Iv n)
theorem qi5 (n:Int):Pure (errN n):=by
 unfold errN;split
 ·exact qt _
 ·exact qb7 (qt _)
theorem qkc {n:Int} (h:n≠0):errN n = .ifc 37 (Iv n):=if_neg h
theorem qo4 (f:FldV) (st:List AObj) (hl:f.1.length<4294967281):qn E 201 [fldA f] st fun r st'=>r=errN (vo f)∧st'=st:=by
 refine zb (qi5 _) (qr Tryz.func201 rfl (Nat.le_of_ble_eq_true rfl) ?_);repeat' (first|apply qm|apply q9|apply qe|apply qf|apply qh|(apply qy;(iterate 3 exact rfl))|(apply jb;exact rfl)|(apply qc;exact rfl;apply cd_n <;> intro h)|(apply qc;exact rfl;apply cd_d <;> intro h)|(apply wl;(iterate 3 exact rfl))|(apply vn;exact rfl;exact rfl)|(apply qcq;(iterate 4 exact rfl))|(apply zk;(iterate 3 exact rfl))|(apply j5;(iterate 5 exact rfl))|apply qx|apply qu|(apply qk;exact Tryz.call217;exact zcq _ _ hl))
 all_goals refine qo rfl (zi rfl) ⟨(?_:_=_),_,rfl⟩
 ·have e:vo f=5:=if_pos (by simp_all)
  rw [e];rfl
 ·have e:vo f=6:=(if_neg (by simp_all)).trans (if_pos (by omega))
  rw [e];rfl
 ·have e:vo f=0:=(if_neg (by simp_all)).trans (if_neg (by omega))
  rw [e];rfl
theorem qh6 (f:FldV) (st:List AObj) (hl:f.1.length<4294967281) (h:vo f=0):qn E 201 [fldA f] st fun r st'=>r = .v .nilIface∧st'=st:=by
 have:=qo4 f st hl;rw [h] at this;exact this
theorem qh7 (f:FldV) (st:List AObj) (hl:f.1.length<4294967281) (h:vo f≠0):qn E 201 [fldA f] st fun r st'=>r = .ifc 37 (Iv (vo f))∧st'=st:=by
 have:=qo4 f st hl;rw [qkc h] at this;exact this
theorem q85 (s:List UInt8) (st:List AObj) (hl:s.length<4294967281):qn E 202 [Sv s] st fun r st'=>r=Sv (wx s)∧st'=st:=by
 refine zb (qt _) (qr Tryz.func202 rfl (Nat.le_of_ble_eq_true rfl) ?_);have hb:Lib.trimS s [32,9]=[]↔qd2 s:=by rw [qn1];simp [xp,qd2]
 repeat' (first|apply qm|apply qe|apply qf|apply qj|apply qh|(apply jv;(iterate 3 exact rfl))|(apply ze;(iterate 4 exact rfl))|(apply qcw;exact cAo)|(apply qcx;exact cAo)|(apply xx <;> intro h)|(apply qp;exact rfl;apply qcm;exact cAo)|(apply qp;exact rfl;apply qdi;exact cAo)|(apply qc;exact rfl;apply cd_t;exact cRa)|(apply qc;exact rfl;apply cd_d <;> intro h)|(apply vh;exact rfl;exact rfl;exact cOs)|apply qx|apply qu|(apply qk;exact Tryz.call215;exact qt8 _ _ _ (by omega) rfl rfl)|(apply qk;exact Tryz.call155;exact qey _ _ _))
 all_goals refine qo rfl (zi rfl) ⟨congrArg (fun l:qa=>Sv l) (?_:_=wx s),_,rfl⟩
 all_goals unfold wx
 all_goals simp_all
theorem q21 (xs:List qa):Pure (Ss xs):=q8h xs
theorem q5l (l p:qa) (r:List qa) (st:List AObj) (hl:l.length<4294967281) (h:zp l=p::r):qn E 96 [Sv l,Sv [10]] st fun x st'=>x = .sl 1 (Sv p::r.map fun x=>Sv x) none∧st'=st:=by
 have:=q80 l st hl;rw [h] at this;exact this
def qid (f:FldV):AV:=.tu [Ss (if vo f=0 then jm f else []),errN (vo f)]
theorem q1f (f:FldV):Pure (qid f):=qeh fun x hx=>by
 simp only [List.mem_cons,List.not_mem_nil,or_false] at hx;rcases hx with rfl|rfl
 ·exact q21 _
 ·exact qi5 _
set_option maxHeartbeats 2000000 in
theorem qo5 (f:FldV) (st:List AObj) (hl:f.1.length<4294967281) (hv:f.2.length<1000000):qn E 143 [fldA f] st fun r st'=>r=qid f∧st'=st:=by
 refine zb (q1f _) (qr Tryz.func143 rfl (Nat.le_of_ble_eq_true rfl) ?_);by_cases hc:vo f=0
 ·obtain⟨p,r,hp⟩:∃ p r,zp f.2=p::r:=⟨_,_,qso f.2⟩
  have fc:p.length≤f.2.length:=qpf f.2 p (by rw [hp];simp);have lv:∀ x∈r,x.length≤f.2.length:=fun x hx=>qpf f.2 x (by rw [hp];simp [hx]);have hrn:r.length≤f.2.length:=by have:=qgv _ f.2 (Nat.le_refl _);rw [hp] at this;simpa using this
  repeat' (first|(apply qbv;(iterate 6 exact rfl))|(apply q6b;(iterate 5 exact rfl);kernel_rfl)|apply qm|apply q9|apply qe|apply qf|apply qj|apply qh|(apply jv;(iterate 3 exact rfl))|(apply qc;exact rfl;apply cd_f;exact cRa)|(apply qc;exact rfl;apply cd_d <;> intro h)|(apply jl;(iterate 4 exact rfl))|(apply vh;exact rfl;exact rfl;exact cOs)|(apply v7;exact rfl;exact rfl)|(apply qcq;(iterate 4 exact rfl))|(apply zk;(iterate 3 exact rfl))|(apply js;(iterate 3 exact rfl))|(apply j5;(iterate 5 exact rfl))|(apply z8;(iterate 11 exact rfl))|(apply qj4;(iterate 4 exact rfl);(first|assumption|omega|exact Nat.succ_le_succ (Nat.zero_le _)|(simp;omega));exact rfl)|apply qj5|(apply quj;exact rfl;exact rfl;exact cOs)|(apply qg1;(iterate 3 exact rfl))|(apply qou;(iterate 5 exact rfl))|apply qhn|apply qx|(apply qk;exact Tryz.call201;exact qh6 _ _ hl hc)|(apply qk;exact Tryz.call96;exact q5l _ _ _ _ (by omega) hp)|(apply kh (n:=0);(iterate 6 exact rfl))|(apply qcr (n:=0);(iterate 6 exact rfl))|(apply qrj (n:=0);(iterate 5 exact rfl);omega))
  all_goals refine q6d 6 (o:=st.length+1) (sz:=1) (len:=1) (cap:=1) (xs:=[Sv (vl f.1 p)]) (T':=9) rfl (jh rfl) rfl rfl (by omega) (Nat.le_refl _) (by decide) (by simp [AV.cells]) ?_ ?_
  ·exact congrArg (fun l:qa=>[Sv l]) (by unfold vl;rw [if_neg h]:vl f.1 p=f.1++[58]++([32]++p))
  rotate_left
  ·exact congrArg (fun l:qa=>[Sv l]) (by unfold vl;rw [if_pos (Classical.not_not.1 h),List.append_nil]:vl f.1 p=f.1++[58])
  all_goals
   have tv:qid f = .tu [Ss (vl f.1 p::r.map fun s=>[32]++wx s),.v .nilIface]:=by
    unfold qid jm;rw [if_pos hc,hc,hp];rfl
   rw [tv];have d8:∀ s,(wx s).length≤s.length+1:=qvz;refine qeb r (fun pre s=>StE [(6,.sl 1 (Sv (vl f.1 p)::pre.map (fun s=>Sv ([32]++wx s))) (some (st.length+1))),(35,.sl 1 (r.map fun x=>Sv x) none),(36,Iv r.length),(37,Iv pre.length)] st [.cells 0 77 [Sv f.1,Sv f.2],.tip (pre.length+1) 1 9] s) (qhs ⟨rfl,rfl,congrArg (fun n:Nat=>Iv (n:Int)) (List.length_map ..),rfl,trivial⟩ (xv st _ 1 _)) ?_ ?_
   ·rintro _ ⟨t,ext,rfl⟩
    repeat' (first|apply qm|apply qe|apply qf|apply qj|apply qh|(apply qy;(iterate 3 exact rfl))|(apply qc;exact rfl;apply xh;exact cAo)|apply vc|apply qu)
    refine qo rfl (q3v rfl rfl rfl (ql6 _ _ _) (qa3 _)) ⟨?_,qcg _ _ _ _⟩;simp only [Ss,List.map_cons,List.map_map];rfl
   ·rintro pre a rest _ hr ⟨t,ext,rfl⟩
    have d5:r.length=pre.length+(rest.length+1):=by rw [hr];simp
    have e9:(r.map fun x=>Sv x)[pre.length]? = some (Sv a):=by rw [hr];simp
    have ha:a.length≤f.2.length:=lv a (by rw [hr];simp);have hsa:=d8 a;repeat' (first|apply qm|apply q9|apply qe|apply qf|apply qj|apply qh|(apply qy;(iterate 3 exact rfl))|(apply qc;exact rfl;apply wg;exact cAo)|(apply vh;exact rfl;exact rfl;exact cOs)|(apply z7;exact rfl;exact rfl;exact zn (by omega) (by omega))|(apply js;(iterate 3 exact rfl))|(apply xw;(iterate 9 exact rfl))|apply qx|(apply qk;exact Tryz.call202;exact q85 _ _ (by omega))|(apply kh (n:=pre.length);(iterate 5 exact rfl);exact e9)|(apply qq7 (n:=pre.length+1) (m:=1) (sz:=1) (bytes:=16);(iterate 4 exact rfl);simp;exact rfl;exact rfl;exact⟨⟨_,_,rfl,rfl,rfl,rfl,rfl⟩⟩;exact rfl;exact rfl;(unfold maxLen;omega);omega;exact rfl))
    refine qe8 ⟨?_,rfl,rfl,?_,trivial⟩ ?_
    ·exact zb7 _ (fun s=>Sv ([32]++wx s)) pre a _ rfl
    ·exact qto pre a
    ·rw [qfp pre a];rfl
 ·skip
  repeat' (first|apply qm|apply qe|apply qf|apply qj|apply qh|(apply qc;exact rfl;apply cd_t;exact cRa)|(apply wr;exact rfl;exact rfl)|(apply qcq;(iterate 4 exact rfl))|(apply j5;(iterate 5 exact rfl))|apply qu|(apply qk;exact Tryz.call201;exact qh7 _ _ hl hc))
  refine qo rfl (w9 (r':=.tu [Ss [],.ifc 37 (Iv (vo f))]) (wm rfl) (qd8 (qfa _) (qa3 _))) ⟨?_,_,rfl⟩;unfold qid;rw [if_neg hc,qkc hc]
theorem qfu {rd:Option Nat} {N:Nat} {ops:Array Oper} {K:AS→Prop} {s:AS} {rest:List Oper} {d:Option Tmp} {T:TypeId} {p:String} {af:Array Edge} {st loc:List AObj} (d8:s.st=st++loc)
  (h:AOps E rd N ops rest K (AS.put ⟨s.t,st++(loc++[bldO 0 (.v (.pointer none)) [] (st.length+(loc.length+1)),.tip 0 1 5]),s.df⟩ d (.bx (st.length+loc.length) 0 0))):AOps E rd N ops (⟨d,.alloc 194,T,p,af,none⟩::rest) K s:=by
 refine jy d8 rfl ?_;have e:∀ (t:Nat→AV) (st':List AObj) (df:List Nat) (x:AV),(AS.put ⟨t,st',df⟩ d x).st=st':=fun t st' df x=>by cases d <;> rfl
 have e2:∀ (t:Nat→AV) (st' st2:List AObj) (df:List Nat) (x:AV),(⟨(AS.put ⟨t,st',df⟩ d x).t,st2,(AS.put ⟨t,st',df⟩ d x).df⟩:AS)=AS.put ⟨t,st2,df⟩ d x:=fun t st' st2 df x=>by cases d <;> rfl
 refine qxi (o:=st.length+loc.length) (j:=1) (sz:=1) (T':=5) (T1:=194) (ver:=0) (cs:=[.v (.pointer none),zj]) ?_ rfl ?_
 ·rw [e,← List.append_assoc,List.getElem?_append_right (by simp)]
  simp;rfl
 ·rw [e,e2]
  have hx:(st++(loc++[AObj.cells 0 194 [.v (.pointer none),zj]])).set (st.length+loc.length) (.cells 0 194 ([AV.v (.pointer none),zj].set 1 (.sl 1 [] (some (st++(loc++[AObj.cells 0 194 [.v (.pointer none),zj]])).length))))++[AObj.tip 0 1 5]
    = st++(loc++[bldO 0 (.v (.pointer none)) [] (st.length+(loc.length+1)),.tip 0 1 5]):=by
   rw [xv,List.append_assoc,List.set_append_right _ _ (Nat.le_refl _)];simp
  have h':=h;rw [← hx] at h';exact h'
theorem qg4 (st loc ext new loc':List AObj) (k kt ver:Nat) (q:AV) (l m:List UInt8) (hk:loc[k]? = some (bldO ver q l (st.length+kt))) (ln:loc[kt]? = some (.tip l.length 1 5)) (hq:q = .v (.pointer none)∨q = .bx (st.length+k) ver 0)
  (d5:l.length+m.length≤140737488355328) (hl:loc'=(loc.set k (bldO ver (.bx (st.length+k) ver 0) (l++m) (st.length+kt))).set kt (.tip (l++m).length 1 5)) :
  qn E 101 [.bx (st.length+k) ver 0,Sv m] (((st++loc)++ext)++new) fun r st'=>r = .tu [Iv m.length,.v .nilIface]∧st'=((st++loc')++ext)++new:=by
 refine (qxp (st.length+k) ver (st.length+kt) q l m _ (qch hk) (qch ln) hq d5).mono fun r st' ⟨h1,h2⟩=>⟨h1,?_⟩;have gw:=lt_of_getElem? hk;have bq:=lt_of_getElem? ln;rw [h2,qhr _ gw,qhr _ (by simpa using bq),hl,List.length_append]
theorem qfv (st loc ext new loc':List AObj) (k kt ver:Nat) (q:AV) (l:List UInt8) (hk:loc[k]? = some (bldO ver q l (st.length+kt))) (ln:loc[kt]? = some (.tip l.length 1 5)) (hl:loc'=loc.set kt .dead) :
  qn E 104 [.bx (st.length+k) ver 0] (((st++loc)++ext)++new) fun r st'=>r=Sv l∧st'=((st++loc')++ext)++new:=by
 refine (qul (st.length+k) ver (st.length+kt) q l _ (qch hk) (qch ln)).mono fun r st' ⟨h1,h2⟩=>⟨h1,?_⟩;rw [h2,qhr _ (lt_of_getElem? ln),hl]
theorem q0c:∀ (r:List qa),(zg (r.map fun s=>[32]++wx s)).length≤3 * (r.flatMap fun s=>[10]++s).length
 | []=>by simp [zg]
 |a::r=>by
  have ih:=q0c r;have:=qvz a;simp only [zg,List.map_cons,List.flatMap_cons,List.length_append,List.length_cons,List.length_nil] at ih ⊢;omega
theorem qa2 (a b:List qa):zg (a++b)=zg a++zg b:=by simp [zg]
theorem qn0 (s:qa):zg [s]=s++[10]:=by simp [zg]
theorem qpn:∀ (l:List qa),l.length≤(zg l).length
 | []=>by simp
 |a::r=>by
  have ih:=qpn r;simp only [zg,List.flatMap_cons,List.length_append,List.length_cons,List.length_nil] at ih ⊢;omega
theorem q69 (a b:List Fld):ke (a++b)=ke a++ke b:=by simp [ke]
theorem q7a (f:Fld):ke [f]=zg (jm f):=by simp [ke]
theorem qsf {f:Fld} (h:j6 f):(zg (jm f)).length≤5000:=by
 obtain⟨hk,hv⟩:=h;have h1:=q0c (zp f.2).tail;have h2:=congrArg List.length (qlo _ f.2 (Nat.le_refl _))
 have h3:(vl f.1 ((zp f.2).headD [])).length≤32+2+((zp f.2).headD []).length:=by
  have:=hk.2.1;unfold vl;split <;> simp <;> omega
 have e:jm f=[vl f.1 ((zp f.2).headD [])]++(zp f.2).tail.map fun s=>[32]++wx s:=rfl;rw [e,qa2,qn0];simp only [List.length_append,List.length_cons,List.length_nil] at h2 ⊢;omega
theorem qgd:∀ (xs:List Fld),(∀ f∈xs,j6 f)→(ke xs).length≤5000 * xs.length
 | [],_=>by simp [ke]
 |f::r,h=>by
  have ih:=qgd r fun x hx=>h x (by simp [hx]);have h1:=qsf (h f (by simp));have e:ke (f::r)=zg (jm f)++ke r:=by simp [ke]
  rw [e,List.length_append,List.length_cons];omega
def errF:List Fld→Int
 | []=>0
 |f::r=>if vo f≠0 then vo f else errF r
theorem qm1:∀ (xs:List Fld),errF xs=0↔∀ f∈xs,j6 f
 | []=>by simp [errF]
 |f::r=>by
  have ih:=qm1 r;unfold errF;by_cases h:vo f≠0
  ·rw [if_pos h]
   have hg:¬ j6 f:=fun hg=>h ((qa7 f).2 hg);simp [h,hg]
  ·have hg:=(qa7 f).1 (Classical.not_not.1 h)
   rw [if_neg h,ih];simp [hg]
theorem q2f:∀ {pre:List Fld} {f:Fld} {r:List Fld},(∀ x∈pre,j6 x)→vo f≠0→errF (pre++f::r)=vo f
 | [],f,r,_,h=>by simp [errF,h]
 |x::pre,f,r,hp,h=>by
  have:=(qa7 x).2 (hp x (by simp));simp only [List.cons_append,errF,this];rw [if_neg (by simp)];exact q2f (fun y hy=>hp y (by simp [hy])) h
theorem qyf (f:FldV) (st:List AObj) (hl:f.1.length<4294967281) (hv:f.2.length<1000000) (h:vo f=0):qn E 143 [fldA f] st fun r st'=>r = .tu [Ss (jm f),.v .nilIface]∧st'=st:=by
 have:=qo5 f st hl hv;unfold qid at this;rw [if_pos h,h] at this;exact this
theorem qyg (f:FldV) (st:List AObj) (hl:f.1.length<4294967281) (hv:f.2.length<1000000) (h:vo f≠0):qn E 143 [fldA f] st fun r st'=>r = .tu [Ss [],.ifc 37 (Iv (vo f))]∧st'=st:=by
 have:=qo5 f st hl hv;unfold qid at this;rw [if_neg h,qkc h] at this;exact this
def qr5 (xs:List Fld):AV:=.tu [Sv (if errF xs=0 then ke xs else []),errN (errF xs)]
theorem q4p (xs:List Fld):Pure (qr5 xs):=qeh fun x hx=>by
 simp only [List.mem_cons,List.not_mem_nil,or_false] at hx;rcases hx with rfl|rfl
 ·exact qt _
 ·exact qi5 _
structure zck (xs:List FldV):Prop where
 len:xs.length<1000000
 val:∀ f∈xs,f.1.length<4294967281∧f.2.length<1000000
set_option maxHeartbeats 2000000 in
theorem zfs (xs:List FldV) (st:List AObj) (hx:zck xs):qn E 100 [kj xs] st fun r st'=>r=qr5 xs∧st'=st:=by
 refine zb (q4p _) (qr Tryz.func100 rfl (Nat.le_of_ble_eq_true rfl) ?_);have hxl:=hx.len;repeat' (first|(apply qfu;exact rfl)|apply qm|apply q9|apply qe|apply qf|apply qj|apply qh|(apply jl;(iterate 4 exact rfl)))
 refine qeb xs (fun pre s=>(∀ f∈pre,j6 f)∧∃ q,(q = .v (.pointer none)∨q = .bx (st.length+0) 0 0)∧StE [(4,.bx (st.length+0) 0 0),(11,kj xs),(12,Iv xs.length),(13,Iv pre.length)] st [bldO 0 q (ke pre) (st.length+1),.tip (ke pre).length 1 5] s) ⟨by simp,_,.inl rfl,qhs ⟨rfl,rfl,congrArg (fun n:Nat=>Iv (n:Int)) (List.length_map ..),rfl,trivial⟩ rfl⟩ ?_ ?_
 ·rintro _ ⟨hg,q,hq,t,ext,rfl⟩
  repeat' (first|apply qm|apply qe|apply qf|apply qh|(apply qy;(iterate 3 exact rfl))|(apply qc;exact rfl;apply xh;exact cAo)|apply vc|apply qu|(refine qk Tryz.call104 (qfv st _ _ _ _ 0 1 0 _ _ rfl rfl rfl) ?_))
  refine qo rfl (wm rfl) ⟨?_,qcg _ _ _ _⟩;unfold qr5;have h0:=(qm1 xs).2 hg;rw [if_pos h0,h0];rfl
 ·rintro pre f rest _ hr ⟨hg,q,hq,t,ext,rfl⟩
  have d5:xs.length=pre.length+(rest.length+1):=by rw [hr];simp
  have e9:(xs.map fldA)[pre.length]? = some (fldA f):=by rw [hr];simp
  obtain⟨gk,hf2⟩:=hx.val f (by rw [hr];simp);by_cases hc:vo f=0
  ·have hgf:=(qa7 f).1 hc
   have p6:=qgd pre hg;have cn:=qsf hgf;repeat' (first|apply qm|apply q9|apply qe|apply qf|apply qj|apply qh|(apply zh;exact rfl;exact rfl)|(apply qy;(iterate 3 exact rfl))|(apply qc;exact rfl;apply wg;exact cAo)|(apply qc;exact rfl;apply cd_f;exact cRa)|(apply jl;(iterate 4 exact rfl))|(apply v7;exact rfl;exact rfl)|(apply jy;exact rfl;exact rfl)|(apply js;(iterate 3 exact rfl))|(apply j5;(iterate 5 exact rfl))|(apply z8;(iterate 11 exact rfl))|apply qx|(apply qk;exact Tryz.call143;exact qyf _ _ gk hf2 hc)|(apply kh (n:=pre.length);(iterate 5 exact rfl);exact e9))
   refine qeb (jm f) (fun lp s=>∃ q,(q = .v (.pointer none)∨q = .bx (st.length+0) 0 0)∧StE [(4,.bx (st.length+0) 0 0),(11,kj xs),(12,Iv xs.length),(13,Iv pre.length),(25,Ss (jm f)),(26,Iv (jm f).length),(27,Iv lp.length)] st [bldO 0 q (ke pre++zg lp) (st.length+1),.tip (ke pre++zg lp).length 1 5] s) ⟨_,hq,qe8 ⟨rfl,rfl,rfl,rfl,rfl,congrArg (fun n:Nat=>Iv (n:Int)) (List.length_map ..),rfl,trivial⟩ (by simp [zg])⟩ ?_ ?_
   ·rintro _ ⟨q,hq,t,ext,rfl⟩
    repeat' (first|apply qm|apply qe|apply qf|apply qj|(apply qy;(iterate 3 exact rfl))|(apply qc;exact rfl;apply xh;exact cAo)|(apply z7;exact rfl;exact rfl;exact zn (by omega) (by omega))|apply vc)
    refine⟨fun x hx=>?_,q,hq,qe8 ⟨rfl,rfl,rfl,?_,trivial⟩ ?_⟩
    ·rcases List.mem_append.1 hx with hx|hx
     ·exact hg x hx
     ·simp at hx;subst hx;exact hgf
    ·rw [qfp pre f];rfl
    ·rw [q69,q7a]
   ·rintro lp a lr _ hlr ⟨q,hq,t,ext,rfl⟩
    have hlen2:(jm f).length=lp.length+(lr.length+1):=by rw [hlr];simp
    have hget2:((jm f).map fun x=>Sv x)[lp.length]? = some (Sv a):=by rw [hlr];simp
    have mv:(zg lp).length+(a.length+1)≤5000:=by
     rw [hlr,qa2] at cn;have:a::lr=[a]++lr:=rfl;rw [this,qa2,qn0] at cn;simp only [List.length_append,List.length_cons,List.length_nil] at cn;omega
    have hct:=qpn lp;repeat' (first|apply qm|apply q9|apply qe|apply qf|apply qj|apply qh|(apply qy;(iterate 3 exact rfl))|(apply qc;exact rfl;apply wg;exact cAo)|(apply vh;exact rfl;exact rfl;exact cOs)|(apply js;(iterate 3 exact rfl))|apply qx|(apply kh (n:=lp.length);(iterate 5 exact rfl);exact hget2))
    refine qk Tryz.call101 (qg4 st _ _ _ _ 0 1 0 _ _ _ rfl rfl ?_ ?_ rfl) ?_;(exact hq);(simp only [List.length_append,List.length_cons,List.length_nil];omega);repeat' (first|apply qe|apply qf|apply qj|(apply z7;exact rfl;exact rfl;exact zn (by omega) (by omega)))
    refine⟨_,.inr rfl,qe8 ⟨rfl,rfl,rfl,rfl,rfl,rfl,?_,trivial⟩ ?_⟩
    ·rw [qfp lp a];rfl
    ·have e:ke pre++zg (lp++[a])=(ke pre++zg lp)++(a++[10]):=by rw [qa2,qn0,List.append_assoc]
     rw [e];rfl
  ·skip
   repeat' (first|apply qm|apply q9|apply qe|apply qf|apply qj|apply qh|(apply zh;exact rfl;exact rfl)|(apply qy;(iterate 3 exact rfl))|(apply qc;exact rfl;apply wg;exact cAo)|(apply qc;exact rfl;apply cd_t;exact cRa)|(apply wr;exact rfl;exact rfl)|(apply jy;exact rfl;exact rfl)|(apply js;(iterate 3 exact rfl))|(apply j5;(iterate 5 exact rfl))|(apply z8;(iterate 11 exact rfl))|apply qx|apply qu|(apply qk;exact Tryz.call143;exact qyg _ _ gk hf2 hc)|(apply kh (n:=pre.length);(iterate 5 exact rfl);exact e9))
   refine qo rfl (wm rfl) ⟨?_,qcg _ _ _ _⟩;unfold qr5;have h0:errF xs=vo f:=by rw [hr];exact q2f hg hc
   rw [h0,if_neg hc,qkc hc];rfl
theorem qe4:∀ (n:Nat) (l:qa) (c:UInt8),l.length≤n→c≠10→zp (l++[c])=(zp l).set ((zp l).length - 1) ((zp l).getD ((zp l).length - 1) []++[c])
 |n,l,c,hn,hc=>by
  by_cases h:10∈l
  ·have b9:l≠[]:=fun e=>by subst e;simp at h
   have d9:=x6 (c:=10) b9
   cases n with
   |zero=>omega
   |succ n=>
    have ih:=qe4 n (past 10 l) c (by omega) hc;have e:=qaa h;have e2:l++[c]=upto 10 l++10::(past 10 l++[c]):=(congrArg (· ++ [c]) e).trans (by simp);have hp:=qln (past 10 l);have fc:0<(zp (past 10 l)).length:=List.length_pos_iff.2 hp;rw [qbb (by simp [h]),qbb h,e2,xj _ (qdf 10 l),yi _ (qdf 10 l),ih];have e3:(upto 10 l::zp (past 10 l)).length - 1=(zp (past 10 l)).length - 1+1:=by simp;omega
    rw [e3,List.set_cons_succ];simp
  ·have h2:10∉l++[c]:=by simp [h,Ne.symm hc]
   rw [qbc h,qbc h2];simp
end Go.Proofs.YtihlchbgjdkmpaaGreatDoor
namespace Go.Av
open Go Go.RowKit
@[reducible] def qsl (K : Act → World → Prop) : Exit → Act → World → Prop
 | .normal,a,w=>K a w
 | _,_,_=>False
structure AZ (E:Env) (N:Nat) (ops:Array Oper) (fuel:Nat) (listed:Array Bool) (K:AS→Prop) (s:AS):Prop where
 run:∀ (B0:Nat) (w0:World) (G:Gh) (a:Act) (w:World),E.L B0 w0→Inv B0 w0 N G s a w→∀ K':Act→World→Prop,(∀ G' s' a' w',G.le G'→Inv B0 w0 N G' s' a' w'→K s'→K' a' w')→wpAnyIn (fw none) 0 E.P .any ops (qsl K') fuel listed a w
structure AY (E:Env) (N:Nat) (o:Oper) (s:AS) (r:AV):Prop where
 run:∀ (B0:Nat) (w0:World) (G:Gh) (a:Act) (w:World),Inv B0 w0 N G s a w→∃ v,(∀ w',(execOp a.eval o).run E.P w' = .ok (.value v) w')∧(∀ w',o.about E.P w' a.eval=none)∧Rel G r v
section
variable {E : Env} {N : Nat} {ops : Array Oper} {K : AS → Prop} {s : AS} {fuel : Nat} {listed : Array Bool}
theorem qiw {id:Nat} {Q:Exit→AS→Prop} {n:Nat} (hm:E.P.follows .mixedOrders=true) (hn:ops.size=n) (h:AZ E N ops n (Array.replicate n false) (Q .normal) s):AWp E none N (.region id ops true) Q s:=by
 subst hn;refine⟨fun B0 w0 G a w hL hI=>?_⟩;have hBl:Below w.heap.size w { w with drawn:=w.drawn+1 }:=⟨rfl,rfl,rfl,Nat.le_refl _,fun _ _=>rfl⟩;have nt:Inv B0 w0 N G s a { w with drawn:=w.drawn+1 }:=⟨hI.agree.fresh hBl,hI.defers,hI.size,hI.tmps⟩;have:=h.run B0 w0 G a _ hL nt (fun a' w'=>∃ (G':Gh) (s':AS),G.le G'∧Inv B0 w0 N G' s' a' w'∧Q .normal s') fun G' s' a' w' hG r7 hk=>⟨G',s',hG,r7,hk⟩;refine wpIn_mono (wpIn_region_any hm this) fun e a' w' hq=>?_
 cases e with
 |normal=>exact hq
 | _=>exact hq.elim
theorem qcd (hr:Region.ready .any ops listed=[]) (h:K s):AZ E N ops fuel listed K s:=
 ⟨fun B0 w0 G a w hL hI K' hK=>wpAnyIn_done hr (hK G s a w (.refl G) hI h) fuel⟩
theorem x4 (i:Nat) {oi:Oper} {r:AV} (hi:ops[i]? = some oi) (hs:Region.noSelect ops=true) (hf:Region.free .any ops listed i=true) (hr:(Region.ready .any ops listed).contains i=true) (hg:oi.guard=none) (hy:AY E N oi s r)
  (h:AZ E N ops fuel (listed.setIfInBounds i true) K (s.put oi.dst r)):AZ E N ops (fuel+1) listed K s:=by
 refine⟨fun B0 w0 G a w hL hI K' hK=>?_⟩;obtain⟨v,h1,h2,h3⟩:=hy.run B0 w0 G a w hI;have hwn:Region.wanted oi (yielded ops a.tmps)=true:=by simp [Region.wanted,hg]
 refine wpAnyIn_take (v:=v) rfl hi hs hf hr (fun c a w hq=>hq.elim) ⟨.inl ⟨hwn,h1⟩,h2⟩ (h.run B0 w0 G _ w hL (hI.put (.refl G) hI.agree oi.dst h3) K' fun G' s' a' w' hG r7 hk=>hK G' s' a' w' hG r7 hk)
theorem q1i {F:Fence} {n:Nat} {P:Program} {o:Oper} {a:Act} {w:World} {next X Y:Act→World→Prop} (h:o.wpIn F n P a w next (qsl X)):o.wpIn F n P a w next (qsl Y):=by
 unfold Oper.wpIn at *;refine⟨h.1,?_⟩;have h:=h.2;generalize (o.semAt F.round a.eval).run P w=r at *
 cases r with
 |ok x w'=>
  cases x <;> simp only [Oper.uponIn] at h ⊢
  case value u=>exact h
  case skip=>exact h
  case defer d=>exact h
  case enter f args=>
   refine⟨h.1,CallsIn.mono h.2 fun e w'' he=>?_⟩
   cases e with
   |returned u=>exact he
   |panicked c=>exact he.elim
   |outgrown=>exact absurd he (by simp [LetsOut])
  case row row args=>exact h
  case round l f tmps assign body=>
   refine⟨h.1,RoundIn.mono h.2 fun e w'' he=>?_⟩
   cases e with
   |returned u=>exact he
   |panicked c=>exact he.elim
   |outgrown=>exact absurd he (by simp [LetsOut])
 |halt x w'=>
  cases x <;> simp only [Oper.uponIn] at h ⊢
  case panic u=>exact h.elim
def qwo (P:Nat→Prop):List Nat→Prop
 | []=>True
 |i::r=>P i∧qwo P r
theorem qub {P:Nat→Prop}:∀ {l:List Nat},qwo P l→∀ i∈l,P i
 | [],_,_,h=>by simp at h
 |j::l,h,i,hi=>by
  rcases List.mem_cons.1 hi with rfl|hi
  ·exact h.1
  ·exact qub h.2 i hi
theorem wn (rs:List Nat) (hr:Region.ready .any ops listed=rs) (b9:Nat.blt 0 rs.length=true)
  (h:qwo (fun i=>∃ o,ops[i]? = some o∧AOps E none N ops [o] (AZ E N ops fuel (listed.setIfInBounds i true) K) s) rs):AZ E N ops (fuel+1) listed K s:=by
 refine⟨fun B0 w0 G a w hL hI K' hK=>wpAnyIn_all hr (fun e=>by subst e;simp at b9) fun i hi=>?_⟩;obtain⟨o,ho,h⟩:=qub h i hi;have a8:=h.run B0 w0 G a w hL hI (qsl fun a' w'=>wpAnyIn (fw none) 0 E.P .any ops (qsl K') fuel (listed.setIfInBounds i true) a' w') fun G' s' a' w' hG r7 hk=>hk.run B0 w0 G' a' w' hL r7 K' fun G2 s2 a2 w2 rg nt bq=>hK G2 s2 a2 w2 (hG.trans rg) nt bq;unfold wpOpIn;rw [ho];simp only [wpListIn] at a8 ⊢;split
 ·rename_i hw
  rw [if_pos hw] at a8;exact q1i a8
 ·rename_i hw
  rw [if_neg hw] at a8;exact a8
variable {d : Option Tmp} {T : TypeId} {p : String} {af : Array Edge}
theorem zcl {op:Op} {r:AV} (hnc:∀ c,op≠.call c) (h:∀ (G:Gh) (ρ : Operand→Value),(∀ x,Rel G (qg N s x) (ρ x))→∃ v,(∀ w',(execOp ρ ⟨d,op,T,p,af,none⟩).run E.P w' = .ok (.value v) w')∧Rel G r v):AY E N ⟨d,op,T,p,af,none⟩ s r:=
 ⟨fun B0 w0 G a w hI=>let ⟨v,h1,h2⟩:=h G a.eval hI.eval;⟨v,h1,fun w'=>by unfold Oper.about;cases op <;> first|rfl|exact absurd rfl (hnc _),h2⟩⟩
theorem yr {x:Operand}:AY E N ⟨d,.move x,T,p,af,none⟩ s (qg N s x):=zcl nofun fun G ρ hρ=>⟨ρ x,fun w'=>by simp [execOp],hρ x⟩
theorem quk {x:Operand}:AY E N ⟨d,.assign x,T,p,af,none⟩ s (qg N s x):=zcl nofun fun G ρ hρ=>⟨ρ x,fun w'=>by simp [execOp],hρ x⟩
end
theorem qte {E:Env} {rd:Option Nat} {N:Nat} {c:Code} {Q:Exit→AS→Prop} {s:AS} (I:AS→Prop) (h:AWp E rd N c (only I) s) (hk:∀ s',I s'→Q .normal s'):AWp E rd N c Q s:=h.mono fun e s' h=>by
 cases e <;> first|exact hk _ h|exact h.elim
end Go.Av
namespace Go.Proofs.YtihlchbgjdkmpaaGreatDoor
open Go Go.Av Go.RowKit Go.Proofs Go.Pl
theorem qnc {l:qa}:qs l=4↔10∉l∧58∈l∧qdc (j7 l):=by
 unfold qs;by_cases i3:10∈l
 ·simp [i3]
 ·rw [if_neg i3]
  constructor
  ·intro h
   split at h
   ·simp at h
   ·split at h
    ·simp at h
    ·split at h
     ·simp at h
     ·split at h
      ·rename_i hk;exact⟨i3,hk.1,hk.2⟩
      ·simp at h
  ·rintro⟨_,h58,hk⟩
   obtain⟨c,hc,hb,h35⟩:=qja hk
   have hh:l.head? = some c:=by
    cases l with
    |nil=>simp at h58
    |cons a r=>
     unfold j7 at hc;rw [List.takeWhile_cons] at hc;split at hc
     ·simpa using hc
     ·simp at hc
   have pk:c∈l:=List.mem_of_head? hh;rw [if_neg (fun h'=>hb (h' c pk)),if_neg (by rw [hh];simpa using h35),if_neg (fun ⟨d,hd,bw⟩=>by rw [hh] at hd;cases hd;exact hb bw),if_pos ⟨h58,hk⟩]
theorem q4w (l:qa) (st:List AObj) (hl:l.length<4294967281) (h:qs l=4):qn E 258 [Sv l] st fun r st'=>r = .tu [Sv (j7 l),Sv (yj l),Bv true]∧st'=st:=by
 refine zb (qgi _ _ _) (qr Tryz.func258 rfl (Nat.le_of_ble_eq_true rfl) ?_);have hc:Lib.cut l [58]=(j7 l,yj l,true):=by rw [quu,if_pos (qnc.1 h).2.1]
 repeat' (first|apply qm|apply qe|apply qf|apply qj|apply qh|(apply zh;exact rfl;exact rfl)|(apply qy;(iterate 3 exact rfl))|(apply qc;exact rfl;apply xh;exact cAo)|apply qx|apply qu|(apply qk;exact Tryz.call156;exact qkd _ _ hl)|(apply qk;exact Tryz.call110;exact qrs _ _ _ hl))
 refine qo rfl (qet rfl) ⟨zgm (?_:_=_),_,rfl⟩;rw [hc]
theorem q1g (l:qa) (st:List AObj) (hl:l.length<4294967281) (h:qs l≠4):qn E 258 [Sv l] st fun r st'=>r = .tu [Sv [],Sv [],Bv false]∧st'=st:=by
 refine zb (qgi _ _ _) (qr Tryz.func258 rfl (Nat.le_of_ble_eq_true rfl) ?_);repeat' (first|apply qm|apply qe|apply qf|apply qj|apply qh|(apply qy;(iterate 3 exact rfl))|(apply qc;exact rfl;apply wg;exact cAo)|apply qu|(apply qk;exact Tryz.call156;exact qkd _ _ hl))
 exact qo rfl (qet rfl) ⟨rfl,_,rfl⟩
theorem zc3 {fn:Func} {s:AS} {t u:Tmp} {Ta:TypeId} {o1 v1 f1 sz1:Nat} {agg1:Bool} {T1:TypeId} {cs1:List AV} {r1:AV} (hr:fn.results = #[.cell t Ta,.tmp u]) (tz:qg fn.ntmps s (.tmp t) = .bx o1 v1 f1) (ho1:s.st[o1]? = some (.cells v1 T1 cs1)) (pq:tyOf E.P Ta=some (sz1,agg1)) (u0:jo sz1 agg1 f1 cs1=some r1) :
  ARes E fn s (.tu [r1,qg fn.ntmps s (.tmp u)]):=by
 refine⟨fun B0 w0 G a w hL hI=>?_⟩;obtain⟨b,v,h1,h2,h3⟩:=qf0 hI tz ho1 pq u0;have hu:=hI.rd u;refine⟨.tuple #[v,a.tmps.getD u undef],?_,qel h3 hu⟩;simp only [Act.eval,Array.getD_eq_getD_getElem?] at h1;simp [results,hr,h1,asAddr,h2]
def qfq (ls:List qa):AV:=.tu [fldA (jr ls).1,errN (jr ls).2]
theorem q0i (ls:List qa):Pure (qfq ls):=qeh fun x hx=>by
 simp only [List.mem_cons,List.not_mem_nil,or_false] at hx;rcases hx with rfl|rfl
 ·exact qoh fun x hx=>by
   simp only [List.mem_cons,List.not_mem_nil,or_false] at hx;rcases hx with rfl|rfl <;> exact qt _
 ·exact qi5 _
theorem qov {fn:Func} {s:AS} {t u:Tmp} {Ta:TypeId} {st loc ext new:List AObj} {k1 v1 f1 sz1:Nat} {agg1:Bool} {T1:TypeId} {cs1:List AV} {r1:AV} (hr:fn.results = #[.cell t Ta,.tmp u]) (hs:s.st=((st++loc)++ext)++new) (tz:qg fn.ntmps s (.tmp t) = .bx (st.length+k1) v1 f1) (ho1:loc[k1]? = some (.cells v1 T1 cs1)) (pq:tyOf E.P Ta=some (sz1,agg1)) (u0:jo sz1 agg1 f1 cs1=some r1) :
  ARes E fn s (.tu [r1,qg fn.ntmps s (.tmp u)]):=zc3 hr tz (by rw [hs];exact qch ho1) pq u0
structure LsB (ls:List qa):Prop where
 len:ls.length<1000000
 val:∀ s∈ls,s.length<1000000
theorem qz9:∀ (r:List qa),(∀ s∈r,s.length<1000000)→(r.flatMap fun s=>[10]++ya 46 (s.drop 1)).length≤1000001 * r.length
 | [],_=>by simp
 |a::r,h=>by
  have ih:=qz9 r fun s hs=>h s (by simp [hs]);have ha:=h a (by simp);have ht:(ya 46 (a.drop 1)).length≤a.length:=by unfold ya;split <;> simp <;> omega
  simp only [List.flatMap_cons,List.length_append,List.length_cons,List.length_nil];omega
theorem q7p (v:qa) (r:List qa):Lib.join (v::r.map fun s=>ya 46 (s.drop 1)) [10]=v++r.flatMap fun s=>[10]++ya 46 (s.drop 1):=by
 rw [Lib.join_cons];unfold Lib.joinTail;rw [List.map_map,List.flatMap_def];rfl
theorem q2q (xs:List qa) (tip:Option Nat) (sep v:qa) (st:List AObj) (h:Lib.join xs sep=v) (hN:xs.length≤140737488355328) (hl:v.length≤140737488355328):qn E 97 [.sl 1 (xs.map fun x=>Sv x) tip,Sv sep] st fun r st'=>r=Sv v∧st'=st:=by
 subst h;exact q7o xs tip sep st hN hl
theorem qtp {s:qa} (h:qs s=3):2≤s.length∧10∉s:=by
 have i3:10∉s:=fun h'=>by unfold qs at h;rw [if_pos h'] at h;simp at h
 refine⟨?_,i3⟩;unfold qs at h;rw [if_neg i3] at h;split at h
 ·simp at h
 ·rename_i hb
  split at h
  ·simp at h
  ·split at h
   ·rename_i gf
    obtain⟨c,hc,hcb⟩:=gf
    match s,hc with
    | [a],hc=>
     simp at hc;subst hc
     exact absurd (by simpa using hcb) hb
    |a::b::r,_=>simp
   ·split at h <;> simp at h
theorem qqe {α : Type} {P : α→Prop} {pre:List α} {a : α} (h:∀ x∈pre,P x) (ha:P a):∀ x∈pre++[a],P x:=fun x hx=>by
 rcases List.mem_append.1 hx with hx|hx
 ·exact h x hx
 ·simp at hx;subst hx;exact ha
end Go.Proofs.YtihlchbgjdkmpaaGreatDoor
namespace Go.Pl
open Go Go.Proofs
structure LnV where
 no:Nat
 at':Nat
 text:qa
 ended : Bool
def xq (k a:Nat) (l:qa):List LnV:=if h:l=[] then [] else⟨k,a,upto 10 l,decide (10∈l)⟩::xq (k+1) (a+(upto 10 l).length+1) (past 10 l)
 termination_by l.length
 decreasing_by exact x6 h
def lns (l:qa):List LnV:=xq 0 0 l
theorem qkf (k a:Nat):xq k a []=[]:=by unfold xq;simp
theorem qie {k a:Nat} {l:qa} (h:l≠[]):xq k a l=⟨k,a,upto 10 l,decide (10∈l)⟩::xq (k+1) (a+(upto 10 l).length+1) (past 10 l):=by
 conv=>lhs;unfold xq
 rw [dif_neg h]
def whole (l:qa):Prop:=l=[]∨l.getLast? = some 10
theorem qvf:∀ (n:Nat) (l:qa) (k a:Nat),l.length≤n→(xq k a l).length≤l.length
 |n,l,k,a,hn=>by
  by_cases h:l=[]
  ·subst h;simp [qkf]
  ·have d9:=x6 (c:=10) h
   cases n with
   |zero=>omega
   |succ n=>
    rw [qie h,List.length_cons];have:=qvf n (past 10 l) (k+1) (a+(upto 10 l).length+1) (by omega);omega
def indF (by':qa) (ls:List (qa×Bool)):qa:=ls.flatMap fun x=>by'++x.1++x5 x.2
def qab (by' l:qa):qa:=indF by' (zl l)
theorem qym (by':qa) (a b:List (qa×Bool)):indF by' (a++b)=indF by' a++indF by' b:=by simp [indF]
theorem qyn (by':qa) (x:qa×Bool):indF by' [x]=by'++x.1++x5 x.2:=by simp [indF]
def lsum (ls:List (qa×Bool)):Nat:=(ls.map fun x=>x.1.length+(x5 x.2).length).sum
theorem qgg:∀ (n:Nat) (l:qa),l.length≤n→lsum (zl l)=l.length∧(zl l).length≤l.length
 |n,l,hn=>by
  by_cases h:l=[]
  ·subst h;simp [vi,lsum]
  ·have d9:=x6 (c:=10) h
   cases n with
   |zero=>omega
   |succ n=>
    obtain⟨h1,h2⟩:=qgg n (past 10 l) (by omega);rw [v8 h];unfold lsum at h1 ⊢;simp only [List.map_cons,List.sum_cons,List.length_cons];rw [h1];have hp:=km 10 l;have hu:=vb 10 l;by_cases i3:10∈l
    ·have:=qdo i3
     simp [i3,x5];omega
    ·have hu2:(upto 10 l).length=l.length:=by rw [qd7 i3]
     have pn:=List.length_pos_iff.2 h;simp [i3,x5];omega
theorem qp9 (by':qa):∀ (ls:List (qa×Bool)),(indF by' ls).length=lsum ls+by'.length * ls.length
 | []=>by simp [indF,lsum]
 |x::r=>by
  have ih:=qp9 by' r;simp only [indF,lsum,List.flatMap_cons,List.length_append,List.map_cons,List.sum_cons,List.length_cons] at ih ⊢;rw [ih,Nat.mul_add];omega
theorem za9 (a b:List (qa×Bool)):lsum (a++b)=lsum a+lsum b:=by simp [lsum]
end Go.Pl
namespace Go.Proofs.YtihlchbgjdkmpaaGreatDoor
open Go Go.Av Go.RowKit Go.Proofs Go.Pl
theorem q83 (text:List UInt8) (st loc:List AObj) (n:Nat) (hn:loc.length=n):qn E 113 [Sv text] (st++loc) fun r st1=>r = .fn (.func 154) [] [.bx (st.length+n) 0 0]∧st1=st++(loc++[.cells 0 9 [Sv text]]):=
 qt1 text (st++loc) _ (st.length+n) (by simp [hn]) (by rw [List.append_assoc])
theorem q7n (b sep:qa) (st:List AObj) (hl:b.length≤140737488355328):qn E 97 [.sl 1 [Sv b] none,Sv sep] st fun r st'=>r=Sv b∧st'=st:=
 q2q [b] none sep b st (by simp [Lib.join,List.intercalate]) (by simp) hl
theorem zfx {st a b ext:List AObj} {m:Nat} (h:((st++a)++ext).length=m) (e:b.length=a.length):((st++b)++ext).length=m:=by
 simp only [List.length_append] at h ⊢;omega
set_option maxHeartbeats 2000000 in
theorem zaz (text by':qa) (st:List AObj) (hl:text.length<100000000) (hb:by'.length<1000):qn E 103 [Sv text,.sl 1 [Sv by'] none] st fun r st'=>r=Sv (qab by' text)∧st'=st:=by
 refine zb (qt _) (qr Tryz.func103 rfl (Nat.le_of_ble_eq_true rfl) ?_);obtain⟨hsum,hcnt⟩:=qgg _ text (Nat.le_refl _);repeat' (first|(apply qfu;exact rfl)|apply qm|apply q9|apply qe|apply qf|apply qj|apply qh|(apply jy;exact rfl;exact rfl)|(apply z8;(iterate 11 exact rfl))|(apply qk;exact Tryz.call97;exact q7n _ _ _ (by omega))|(refine qk Tryz.call113 (q83 _ _ _ _ rfl) ?_))
 refine qtf (st:=st) text rfl rfl (by omega) (fun k rest l=>∃ q don,(q = .v (.pointer none)∨q = .bx (st.length+0) 0 0)∧zl text=don++zl rest∧l=[bldO 0 q (indF by' don) (st.length+1),.tip (indF by' don).length 1 5,.cells 0 9 [Sv by'],.cells 0 9 [Sv text]]) (fun _ _=>False)
  ⟨_,[],.inl rfl,rfl,rfl⟩ (fun k rest l ⟨q,don,_,_,e⟩=>by subst e;exact⟨rfl,rfl⟩) (fun _ _ h=>h.elim) ?_ ?_ (fun _ _ _ h=>h.elim)
 ·rintro F own rd k rest _ ext m hF ⟨q,don,hq,hd,rfl⟩ b9 d6 hm1 pj
  have pk:zl rest=(upto 10 rest,decide (10∈rest))::zl (past 10 rest):=v8 b9;have hu:=vb 10 rest;have d5:=qp9 by' (don++[(upto 10 rest,decide (10∈rest))]);have he:zl text=(don++[(upto 10 rest,decide (10∈rest))])++zl (past 10 rest):=by rw [hd,pk];simp
  have ml:lsum (don++[(upto 10 rest,decide (10∈rest))])+lsum (zl (past 10 rest))=text.length:=by rw [← za9,← he];exact hsum
  have hc2:(don++[(upto 10 rest,decide (10∈rest))]).length+(zl (past 10 rest)).length≤text.length:=by rw [← List.length_append,← he];exact hcnt
  have hm:by'.length * (don++[(upto 10 rest,decide (10∈rest))]).length≤1000 * 100000000:=Nat.mul_le_mul (by omega) (by omega);rw [qym,qyn] at d5;simp only [List.length_append] at d5 hm hc2;repeat' (first|(apply q0n;exact rfl;assumption;exact rfl)|(apply qat;exact rfl;assumption;(iterate 10 exact rfl))|apply qe|apply qf)
  refine⟨_,rfl,rfl,?_⟩;repeat' (first|apply qm|apply q9|apply qe|apply qf|(apply qc;exact rfl;apply cd_d <;> intro h)|(apply vh;exact rfl;exact rfl;exact cOs)|(apply zk;(iterate 3 exact rfl))|(apply qma;(iterate 5 exact rfl))|apply qx|(apply qbj;exact rfl;exact zfx pj rfl;(iterate 4 exact rfl))|(refine qk Tryz.call101 (qg4 st _ _ _ _ 0 1 0 _ _ _ rfl rfl ?_ ?_ rfl) ?_;(first|exact hq|exact .inr rfl);(simp only [List.length_append,List.length_cons,List.length_nil];omega)))
  all_goals
   have hx:indF by' (don++[(upto 10 rest,decide (10∈rest))])=(indF by' don++(by'++upto 10 rest))++x5 (decide (10∈rest)):=by
    rw [qym,qyn];simp
   refine⟨[bldO 0 (.bx (st.length+0) 0 0) (indF by' (don++[(upto 10 rest,decide (10∈rest))])) (st.length+1),.tip (indF by' (don++[(upto 10 rest,decide (10∈rest))])).length 1 5,.cells 0 9 [Sv by'],.cells 0 9 [Sv text]],ext,[.cells 0 206 (qdd k text rest).cells],?_,_,_,.inr rfl,he,rfl⟩
  ·have i3:10∈rest:=by simp_all
   rw [hx,show x5 (decide (10∈rest))=[10] by simp [i3,x5]];rfl
  ·have i3:10∉rest:=by simp_all
   have hx2:indF by' (don++[(upto 10 rest,decide (10∈rest))])=indF by' don++(by'++upto 10 rest):=by
    rw [hx];simp [i3,x5]
   rw [hx2];rfl
 ·rintro k _ ext ⟨q,don,hq,hd,rfl⟩
  repeat' (first|apply qm|apply qe|apply qf|apply qh|apply qu|(refine qk Tryz.call104 (qfv st _ _ _ _ 0 1 0 _ _ rfl rfl rfl) ?_))
  refine qwc (k:=4) rfl rfl rfl (qo rfl (zi rfl) ⟨congrArg (fun l:qa=>Sv l) (?_:_=qab by' text),qcg _ _ _ _⟩);rw [vi,List.append_nil] at hd;unfold qab;rw [hd]
end Go.Proofs.YtihlchbgjdkmpaaGreatDoor
namespace Go.Pl
open Go Go.Proofs
def q44 (x:LnV):qa×Bool:=(x.text,x.ended)
end Go.Pl
namespace Go.Av
open Go Go.RowKit
def TipC (b:Nat) (st:List AObj) (sz:Nat) (T:TypeId) (xs:List AV) (c:AV):Prop:=(xs=[]∧c=zj)∨∃ t,c = .sl sz xs (some t)∧st[t]? = some (.tip xs.length sz T)∧b≤t
structure Fr (st st':List AObj) (t:Nat):Prop where
 len:st.length≤st'.length
 same:∀ k,k≠t→k<st.length→st'[k]? = st[k]?
theorem zcf (b:Nat) (st:List AObj) (sz:Nat) (T:TypeId):TipC b st sz T [] zj:=.inl ⟨rfl,rfl⟩
theorem qio {b:Nat} {st l:List AObj} {sz:Nat} {T:TypeId} {xs:List AV} {c:AV} (h:TipC b st sz T xs c):TipC b (st++l) sz T xs c:=by
 rcases h with h | ⟨t,h1,h2,h3⟩
 ·exact .inl h
 ·exact .inr ⟨t,h1,by rw [List.getElem?_append_left (lt_of_getElem? h2)];exact h2,h3⟩
section
variable {E : Env} {rd : Option Nat} {N : Nat} {ops : Array Oper} {K : AS → Prop} {s : AS} {rest : List Oper} {d : Option Tmp} {T : TypeId} {p : String} {af : Array Edge}
theorem qxb {x y:Operand} {t u T':TypeId} {sz bytes b:Nat} {xs ys:List AV} {tip:Option Nat} {c:AV} {st:List AObj} (d8:s.st=st) (hx:qg N s x=c) (hc:TipC b st sz T' xs c) (hb:b≤st.length) (hy:qg N s y = .sl sz ys tip)
  (ht:E.P.underlying t=some (.slice T')) (hu:E.P.underlying u=some (.slice T')) (hT:yb E.P T' sz bytes) (m8:kr (flat ys)=true) (t7:xs.length+ys.length≤maxLen) (hby:(xs.length+ys.length) * bytes≤140737488355328)
  (h:∀ t1 st',st'[t1]? = some (.tip (xs++ys).length sz T')→b≤t1→Fr st st' t1→(c = .sl sz xs (some t1)∨st.length≤t1)→AOps E rd N ops rest K (AS.put ⟨s.t,st',s.df⟩ d (.sl sz (xs++ys) (some t1)))):AOps E rd N ops (⟨d,.call ⟨.builtin .append,#[x,y],#[t,u]⟩,T,p,af,none⟩::rest) K s:=by
 subst d8;refine qz rfl (qw nofun fun B0 w0 G a w _ hI=>?_);rcases hc with⟨lj,hcn⟩ | ⟨t1,h1,h2,h3⟩
 ·subst lj
  have d6:=G.le_new 0 0 0 false;have hA:=hI.agree.newTip sz T';have hv:a.eval x = .slice none 0 0:=hI.evalv (hx.trans hcn);have hn:=hI.agree.n;obtain⟨news,k1,k2,k3⟩:=yq (P:=E.P) hA ((hI.eval_of hy).mono d6) (by simpa [kr] using m8)
  have hr:Rel (G.new 0 0 0 false) (.sl sz [] (some s.st.length)) (a.eval x):=by
   rw [hv];exact .sl0 sz _ none 0 fun t ht=>by simp only [Option.some.injEq] at ht;subst ht;exact⟨by simp [Gh.new,hn],rfl,rfl⟩
  obtain⟨v',w',G',e1,e2,e3,e4⟩:=qbh (ty:=T) hA ht hu (.inr ⟨_,rfl⟩) hT (t:=s.st.length) (n:=0) (by simp) hr rfl rfl k1 k2 k3 (by simpa using t7) (by simpa using hby);refine⟨v',w',G',_,_,?_,d6.trans e2,e3,e4,h s.st.length _ ?_ hb ⟨by simp,fun k hk d9=>?_⟩ (.inr (Nat.le_refl _))⟩
  ·generalize a.eval = ρ at e1
   simp [execOp,resolve,invoke,builtin,e1]
  ·simp
  ·rw [List.getElem?_set_ne (Ne.symm hk),List.getElem?_append_left d9]
 ·obtain⟨news,k1,k2,k3⟩:=yq (P:=E.P) hI.agree (hI.eval_of hy) (by simpa [kr] using m8)
  obtain⟨v',w',G',e1,e2,e3,e4⟩:=qbh (ty:=T) hI.agree ht hu (.inr ⟨_,rfl⟩) hT h2 (hI.eval_of (hx.trans h1)) rfl rfl k1 k2 k3 t7 hby;refine⟨v',w',G',_,_,?_,e2,e3,e4,h t1 _ ?_ h3 ⟨by simp,fun k hk d9=>?_⟩ (.inl h1)⟩
  ·generalize a.eval = ρ at e1
   simp [execOp,resolve,invoke,builtin,e1]
  ·rw [List.length_append]
   exact jq h2
  ·rw [List.getElem?_set_ne (Ne.symm hk)]
theorem qmn {t:TypeId} {x:Operand} {r:AV} {cs:List AV} (hx:qg N s x=r) (hok:r.okc=true) (hc:r.cells=cs)
  (h:AOps E rd N ops rest K (s.put d (.pp cs))):AOps E rd N ops (⟨d,.box t x,T,p,af,none⟩::rest) K s:=by
 refine qz rfl (qw nofun fun B0 w0 G a w _ hI=>?_);have hr:=(hI.eval_of hx).cells hok;rw [hc] at hr;obtain⟨d6,hA⟩:=hI.agree.newPub t (a.eval x).cells (0,0) (a.eval x).cells.toList (fun i y hy=>by simpa using hy)
 have a8:(execOp a.eval ⟨d,.box t x,T,p,af,none⟩).run E.P w = .ok (.value (.pointer (some ⟨w.heap.size,0,none⟩))) (w.alloc (.cells (a.eval x).cells t)):=by
  generalize a.eval = ρ;simp [execOp,Instr.box,newVar,newRow,newObj,Sem.run]
 refine⟨_,_,_,.pp cs,s.st,a8,d6,hA,.pp cs w.heap.size 0 (a.eval x).cells.toList (by simp [Gh.publish]) (by rw [hr.1];simp) fun i x y hx hy=>(hr.2 i x y hx (by simpa using hy)).mono d6,h⟩
end
theorem qoo {E:Env} {f:FuncId} {x x':AV} {us:List AV} {st:List AObj} {R:AV→List AObj→Prop} (hw:∀ G v,Rel G x v→Rel G x' v) (h:qn E f (x'::us) st R):qn E f (x::us) st R:=
 ⟨fun B0 w0 G vals w hL hA hR=>h.run B0 w0 G vals w hL hA ⟨by have:=hR.1;simpa using this,fun i a b ha hb=>by
  cases i with
  |zero=>simp at ha;subst ha;exact hw G b (hR.2 0 x b rfl hb)
  |succ i=>exact hR.2 (i+1) a b (by simpa using ha) hb⟩⟩
theorem qa8 {st l:List AObj} {o:Nat} {x:AObj} (h:st[o]? = some x):(st++l)[o]? = some x:=by
 rw [List.getElem?_append_left (lt_of_getElem? h)];exact h
theorem xc {st:List AObj} {x:AObj}:(st++[x])[st.length]? = some x:=by simp
section
variable {E : Env} {rd : Option Nat} {N : Nat} {ops : Array Oper} {K : AS → Prop} {s : AS} {rest : List Oper} {d : Option Tmp} {T : TypeId} {p : String} {af : Array Edge}
theorem qjo {t:TypeId} {st:List AObj} {cs:List AV} (d8:s.st=st) (hz:qhm E.P t=some cs)
  (h:AOps E rd N ops rest K (AS.put ⟨s.t,st++[.cells 0 t cs],s.df⟩ d (.bx st.length 0 0))):AOps E rd N ops (⟨d,.alloc t,T,p,af,none⟩::rest) K s:=
 jy (loc:=[]) (by rw [d8];simp) hz h
theorem q52 {t:TypeId} {x:Operand} {st:List AObj} {r:AV} {cs:List AV} (d8:s.st=st) (hx:qg N s x=r) (hok:r.okc=true) (hc:r.cells=cs)
  (h:AOps E rd N ops rest K (AS.put ⟨s.t,st++[.cells 0 t cs],s.df⟩ d (.bx st.length 0 0))):AOps E rd N ops (⟨d,.box t x,T,p,af,none⟩::rest) K s:=
 qcq (loc:=[]) (by rw [d8];simp) hx hok hc h
end
theorem qk1 {st st':List AObj} (hl:st.length≤st'.length) (h:∀ k,k<st.length→st'[k]? = st[k]?):∃ ext,st'=st++ext:=by
 refine⟨st'.drop st.length,?_⟩;apply List.ext_getElem?;intro k;by_cases hk:k<st.length
 ·rw [h k hk,List.getElem?_append_left hk]
 ·rw [List.getElem?_append_right (by omega),List.getElem?_drop]
  congr 1;omega
end Go.Av
namespace Go.Proofs.YtihlchbgjdkmpaaGreatDoor
open Go Go.Av Go.RowKit Go.Proofs
def qe3 (x:Option AObj):Prop:=∀ n sz T,x≠some (.tip n sz T)
theorem yp {ver:Nat} {T:TypeId} {cs:List AV} {x:Option AObj} (h:x=some (.cells ver T cs)):qe3 x:=fun n sz T' e=>by
 rw [h] at e;simp at e
end Go.Proofs.YtihlchbgjdkmpaaGreatDoor
namespace Go.Proofs.YtihlchbgjdkmpaaGreatDoor
open Go Go.Av Go.RowKit Go.Proofs Go.Pl
structure Ext (n:Nat) (S S':List AObj):Prop where
 len:S.length≤S'.length
 low:∀ k,k<n→S'[k]? = S[k]?
 tips:∀ (t m sz:Nat) (T:TypeId),S[t]? = some (AObj.tip m sz T)→S'[t]? = S[t]?
theorem qfi {n:Nat} {S l:List AObj} (h:n≤S.length):Ext n S (S++l):=⟨by simp,fun k hk=>List.getElem?_append_left (by omega),fun t m sz T ht=>List.getElem?_append_left (lt_of_getElem? ht)⟩
theorem yu {n o:Nat} {S:List AObj} {x:AObj} (h:n≤o) (hn:qe3 S[o]?):Ext n S (S.set o x):=⟨by simp,fun k hk=>List.getElem?_set_ne (by omega),fun t m sz T ht=>List.getElem?_set_ne (fun e=>by subst e;exact hn _ _ _ ht)⟩
theorem Ext.weak {n m:Nat} {S S':List AObj} (h:Ext n S S') (hm:m≤n):Ext m S S':=⟨h.len,fun k hk=>h.low k (by omega),h.tips⟩
theorem Ext.trans {n:Nat} {S S' S'':List AObj} (h:Ext n S S') (k:Ext n S' S''):Ext n S S'':=⟨Nat.le_trans h.len k.len,fun i hi=>(k.low i hi).trans (h.low i hi),fun t m sz T ht=>(k.tips t m sz T ((h.tips t m sz T ht).trans ht)).trans (h.tips t m sz T ht)⟩
theorem q82 (text:List UInt8) (o kb ver n m:Nat) (I:Nat→List UInt8→List AObj→Prop) (D:List AObj→Prop) (S:List AObj) (hm:S.length=m) (hn:n≤m) (ht:text.length<4294967281) (h0:I 0 text S)
  (hI:∀ k rest S',I k rest S'→S'[kb]? = some (.cells ver 9 [Sv text]))
  (d8:∀ k rest S' S'',Ext n S' S''→I k rest S'→I k rest S'')
  (hY:∀ k rest S' cs,I k rest S'→S'[m]? = some (.cells 0 206 cs)→rest≠[]→rest.length≤text.length→xk E o [qdd k text rest] S' fun b S''=>S''[m]? = some (.cells 0 206 cs)∧(b=true→I (k+1) (past 10 rest) S'')∧(b=false→D S'')) :
  qn E 154 [.yd o,.bx kb ver 0] S fun r S'=>(∃ k,I k [] S')∨D S':=by
 subst hm;refine qr Tryz.func154 rfl (Nat.le_of_ble_eq_true rfl) ?_;have hb:=hI 0 text S h0;repeat' (first|apply qm|apply q9|apply qe|apply qf|apply qh|(apply jy;exact rfl;exact rfl)|(apply z8;(iterate 11 exact rfl))|(apply yl;(iterate 3 exact rfl))|(apply yx;exact rfl;exact rfl;exact hb;exact rfl;exact rfl))
 refine v4 (fun (x:Nat×List UInt8) s=>match x with|(k,rest)=>∃ S' at' ta eb,I k rest S'∧k+rest.length≤text.length∧at'=(text.length:Int) - rest.length∧S'[S.length]? = some (.cells 0 206 [Iv k,Iv at',Sv ta,Bv eb])∧StA [(0,.yd o),(1,.bx kb ver 0),(3,.bx S.length 0 0),(4,Sv rest)] S' [] s) (fun x=>x.2.length) (0,text)
  ⟨_,0,[],false,d8 _ _ _ _ (qfi hn) h0,by simp,by simp,jh (k:=0) rfl,vk ⟨rfl,rfl,rfl,rfl,trivial⟩⟩ ?_
 rintro⟨k,rest⟩ _ ⟨S',_,ta,eb,hi,d6,rfl,u7,t,rfl⟩;have cx:=hI k rest S' hi;repeat' (first|apply qm|apply q9|apply qe|apply qf|apply qj|apply qh|(apply zh;exact rfl;exact rfl)|(apply jv;(iterate 3 exact rfl))|(apply qc;exact rfl;apply cd_d <;> intro h)|(apply zk;(iterate 3 exact rfl))|apply qx|apply vc|(apply qk;exact Tryz.call110;exact qhz _ _ _ (by omega))|(apply j9;exact rfl;(focus first|assumption|(repeat' (first|assumption|exact xc|exact jh rfl|apply jq|apply jg|omega|apply qa8)));exact rfl;exact rfl)|(apply x7;exact rfl;exact rfl;(focus first|assumption|(repeat' (first|assumption|exact xc|exact jh rfl|apply jq|apply jg|omega|apply qa8)));(iterate 6 exact rfl)))
 ·have e1:Ext n S' ((S'.set S.length (.cells 0 206 [Iv k,Iv ((text.length:Int) - rest.length),Sv (upto 10 rest),Bv eb])).set S.length (.cells 0 206 [Iv k,Iv ((text.length:Int) - rest.length),Sv (upto 10 rest),Bv (decide (10∈rest))])):=
   (yu hn (yp u7)).trans (yu hn (yp (jq u7)))
  apply qbi (o:=o) rfl;refine xk.mono (hY k rest _ _ (d8 _ _ _ _ e1 hi) (jq (jq u7)) h (by omega)) ?_;rintro b S2 ⟨sj,h1,h2⟩
  show AOps _ _ _ _ _ _ _
  cases b
  ·skip
   repeat' (first|apply qf|(apply jb;exact rfl)|(apply qc;exact rfl;apply qkx;exact cRa)|apply qu)
   exact qo rfl (xl rfl) (.inr (h2 rfl))
  ·have hi3:=h1 rfl
   have mv:=hI _ _ _ hi3;have hp:=km 10 rest;have hr0:0<rest.length:=List.length_pos_iff.2 h
   have rz:kb≠S.length:=fun e=>by
    rw [e,sj] at mv;simp at mv
   repeat' (first|apply qm|apply qe|apply qf|apply qj|(apply jb;exact rfl)|(apply qc;exact rfl;apply qn9;exact cRa)|(apply wl;(iterate 3 exact rfl))|(apply z7;exact rfl;exact rfl;exact zn (by omega) (by omega))|(apply qa6;exact rfl;exact rfl;exact zn (by omega) (by omega))|(apply zk;(iterate 3 exact rfl))|apply qx|(apply j9;exact rfl;exact jg mv (Ne.symm rz);exact rfl;exact rfl)|(apply j9;exact rfl;(focus first|assumption|(repeat' (first|assumption|exact xc|exact jh rfl|apply jq|apply jg|omega|apply qa8)));exact rfl;exact rfl)|(apply x7;exact rfl;exact rfl;(focus first|assumption|(repeat' (first|assumption|exact xc|exact jh rfl|apply jq|apply jg|omega|apply qa8)));(iterate 6 exact rfl)))
   have e2:Ext n S2 _:=(yu hn (yp sj)).trans (yu (x:=.cells 0 206 [Iv ((k:Int)+1),Iv ((text.length:Int) - (past 10 rest).length),Sv (upto 10 rest),Bv (decide (10∈rest))]) hn (yp (jq (y:=.cells 0 206 [Iv ((k:Int)+1),Iv ((text.length:Int) - rest.length),Sv (upto 10 rest),Bv (decide (10∈rest))]) sj)));exact⟨(k+1,past 10 rest),⟨_,_,_,_,d8 _ _ _ _ e2 hi3,by omega,rfl,jq (jq sj),vk ⟨rfl,rfl,rfl,rfl,trivial⟩⟩,by simp only;omega⟩
 ·have hr:rest=[]:=Classical.not_not.1 h
  subst hr;exact qo rfl (xl rfl) (.inl ⟨k,hi⟩)
structure ItC (g:FuncId) (T:TypeId) (cs:List AV) {ι : Type} (Y : ι→Option (AV×ι)) (i0 : ι):Prop where
 run:∀ (o kb n m:Nat) (I : ι→List AObj→Prop) (D:List AObj→Prop) (S:List AObj),S.length=m→n≤m→I i0 S →
  (∀ i S',I i S'→S'[kb]? = some (.cells 0 T cs))→(∀ i S' S'',Ext n S' S''→I i S'→I i S'') →
  (∀ i x j S' (own:List AObj),I i S'→(∀ k y,own[k]? = some y→S'[m+k]? = some y∧qe3 (some y))→Y i=some (x,j)→xk E o [x] S' fun b S''=>(∀ k y,own[k]? = some y→S''[m+k]? = some y)∧(b=true→I j S'')∧(b=false→D S'')) →
  qn E g [.yd o,.bx kb 0 0] S fun r S'=>(∃ i,Y i=none∧I i S')∨D S'
def qnx (text:List UInt8):Nat×List UInt8→Option (AV×(Nat×List UInt8))
 |(k,rest)=>if rest=[]∨text.length<rest.length then none else some (qdd k text rest,(k+1,past 10 rest))
theorem zca (text:List UInt8) (ht:text.length<4294967281):ItC 154 9 [Sv text] (qnx text) (0,text):=⟨fun o kb n m I D S hm hn h0 hI d8 hY=>by
 refine (q82 text o kb 0 n m (fun k rest S=>I (k,rest) S∧rest.length≤text.length) D S hm hn ht ⟨h0,Nat.le_refl _⟩ (fun k rest S' h=>hI _ _ h.1) (fun k rest S' S'' hE h=>⟨d8 _ _ _ hE h.1,h.2⟩) (fun k rest S' cs hi u7 b9 d6=>?_)).mono ?_
 ·refine (hY (k,rest) (qdd k text rest) (k+1,past 10 rest) S' [.cells 0 206 cs] hi.1 (fun j y hy=>?_) (if_neg fun h=>h.elim b9 (by omega))).mono fun b S'' ⟨h1,h2,h3⟩=>⟨by have:=h1 0 _ rfl;simpa using this,fun hb=>⟨h2 hb,by have:=km 10 rest;omega⟩,h3⟩
  match j with
  | 0=>
   simp only [List.getElem?_cons_zero,Option.some.injEq] at hy;subst hy
   exact⟨u7,yp rfl⟩
  |j+1=>simp at hy
 ·rintro r S' (⟨k,h⟩|h)
  ·exact .inl ⟨(k,[]),by simp [qnx],h.1⟩
  ·exact .inr h⟩
@[reducible] def q8r (n : Nat) (F : LoopState → Option Code → AObj) (own : List AObj) (I : List AObj → Prop) (D : Code → List AObj → Prop) : Exit → AS → Prop
 | .normal,s=>s.st[n]? = some .dfr∧s.st[n+1]? = some (F .busy none)∧(∀ k y,own[k]? = some y→s.st[n+2+k]? = some y)∧I s.st
 | .ret,s=>s.st[n]? = some .dfr∧s.st[n+1]? = some (F .busy none)∧(∀ k y,own[k]? = some y→s.st[n+2+k]? = some y)∧D .ret s.st
 | .exit id,s=>s.st[n]? = some .dfr∧s.st[n+1]? = some (F .busy none)∧(∀ k y,own[k]? = some y→s.st[n+2+k]? = some y)∧D (.exit id) s.st
 | _,_=>False
theorem qba {N:Nat} {t:Nat→AV} {ps:Array Tmp} {asg body:Code} {F:LoopState→Option Code→AObj} (hF:qis F N t ps asg body) (ls:LoopState) (pend:Option Code) {x:Option AObj} (h:x=some (F ls pend)):qe3 x:=fun n sz T' e=>by
 rw [h,hF] at e;simp at e
theorem qxn {N:Nat} {Q:Exit→AS→Prop} {s:AS} {f:Operand} {p:Tmp} {asg body:Code} {S0:List AObj} {kb:Nat} {g:FuncId} {T:TypeId} {cs:List AV} {ι : Type} {Y : ι→Option (AV×ι)} {i0 : ι} (pd:ItC g T cs Y i0) (d8:s.st=S0) (hx:qg N s f = .fn (.func g) [] [.bx kb 0 0])
  (a8:∀ vs w,(callFunc g vs).run E.P w = .ok (.enter g vs) w)
  (I : ι→List AObj→Prop) (D:Code→List AObj→Prop) (h0:I i0 S0)
  (hI:∀ i S,I i S→S[kb]? = some (.cells 0 T cs))
  (lw:∀ i S S',Ext S0.length S S'→I i S→I i S') (ml:∀ c S S',Ext S0.length S S'→D c S→D c S')
  (hb:∀ F (own:List AObj) rd i x j S,qis F N s.t #[p] asg body→I i S→Y i=some (x,j)→S[S0.length]? = some .dfr→S[S0.length+1]? = some (F .ready none)→(∀ k y,own[k]? = some y→S[S0.length+2+k]? = some y∧qe3 (some y)) →
   AWp E (some rd) N asg (only fun s1=>s1.st[S0.length+1]? = some (F .ready none)∧s1.df=[]∧AWp E (some rd) N body (q8r S0.length F own (I j) D) ⟨s1.t,s1.st.set (S0.length+1) (F .busy none),[]⟩) ⟨put s.t p x,S,[]⟩)
  (hn:∀ i S,Y i=none→I i S→S[S0.length]? = some .dfr→Q .normal ⟨s.t,S,S0.length::s.df⟩)
  (hd:∀ c S,D c S→S[S0.length]? = some .dfr→AWp E none N c Q ⟨s.t,S,S0.length::s.df⟩):AWp E none N (.rangeFunc f #[p] asg body) Q s:=by
 refine qg3 (st:=S0) (loc:=[]) (by rw [d8];simp) hx a8 fun F hF=>?_;have hl:(S0++([]++[AObj.dfr,F .ready none])).length=S0.length+2:=by simp
 have g1:(S0++([]++[AObj.dfr,F .ready none]))[S0.length]? = some .dfr:=by simp
 have g2:(S0++([]++[AObj.dfr,F .ready none]))[S0.length+1]? = some (F .ready none):=by simp
 have hz:S0.length+(([]:List AObj).length+1)=S0.length+1:=by simp
 rw [hz,show S0.length+([]:List AObj).length=S0.length from rfl];refine qn.mono (pd.run (S0.length+1) kb (S0.length+2) (S0.length+2) (fun i S=>I i S∧S[S0.length]? = some .dfr∧S[S0.length+1]? = some (F .ready none)) (fun S=>∃ c,D c S∧S[S0.length]? = some .dfr∧S[S0.length+1]? = some (F .done (some c))) (S0++([]++[.dfr,F .ready none])) hl (Nat.le_refl _) ⟨lw _ _ _ (qfi (Nat.le_refl _)) h0,g1,g2⟩ (fun i S h=>hI i S h.1) (fun i S S' hE h=>⟨lw _ _ _ (hE.weak (by omega)) h.1,(hE.low _ (by omega)).trans h.2.1,(hE.low _ (by omega)).trans h.2.2⟩) ?_) ?_
 ·rintro i x j S' own ⟨hi,hd1,gk⟩ u7 hy
  refine qkr hF gk rfl fun rd=>?_;refine (hb F own rd i x j S' hF hi hy hd1 gk u7).mono fun e s1 hq=>?_;have fin:∀ {S:List AObj} {z:AObj},(∀ k y,own[k]? = some y→S[S0.length+2+k]? = some y)→∀ k y,own[k]? = some y→(S.set (S0.length+1) z)[S0.length+2+k]? = some y:=fun h k y hk=>jg (h k y hk) (by omega)
  cases e with
  |normal=>
   obtain⟨q1,q2,q3⟩:=hq;refine⟨q1,q2,q3.mono fun e s2 o6=>?_⟩
   cases e with
   |normal=>
    obtain⟨k1,k2,k3,k4⟩:=o6
    exact⟨k2,fin k3,fun _=>⟨lw _ _ _ (yu (by omega) (qba hF _ _ k2)) k4,jg k1 (by omega),jq k2⟩,nofun⟩
   |ret=>
    obtain⟨k1,k2,k3,k4⟩:=o6
    exact⟨k2,fin k3,nofun,fun _=>⟨_,ml _ _ _ (yu (by omega) (qba hF _ _ k2)) k4,jg k1 (by omega),jq k2⟩⟩
   |exit id=>
    obtain⟨k1,k2,k3,k4⟩:=o6
    exact⟨k2,fin k3,nofun,fun _=>⟨_,ml _ _ _ (yu (by omega) (qba hF _ _ k2)) k4,jg k1 (by omega),jq k2⟩⟩
   | _=>exact o6.elim
  | _=>exact hq.elim
 ·rintro r S' (⟨i,hy,hi,hd1,gk⟩ | ⟨c,hi,hd1,gk⟩)
  ·exact⟨.ready,none,nofun,gk,hn i _ hy (lw _ _ _ (yu (by omega) (qba hF _ _ gk)) hi) (jg hd1 (by omega))⟩
  ·exact⟨.done,some c,nofun,gk,hd c _ (ml _ _ _ (yu (by omega) (qba hF _ _ gk)) hi) (jg hd1 (by omega))⟩
end Go.Proofs.YtihlchbgjdkmpaaGreatDoor
