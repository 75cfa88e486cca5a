/- Contracts and plain facts that the closing text leans on (part 5). No condition of their own beyond those that each states. -/
import Derived.Test.YtapblfabkbdgcaaGreatDoorK4
set_option maxRecDepth 100000
set_option linter.unusedVariables false
set_option linter.unusedSimpArgs false
namespace Go.Av
open Go Go.RowKit
section
variable {E : Env} {rd : Option Nat} {N : Nat} {ops : Array Oper} {K : AS → Prop} {s : AS} {rest : List Oper} {d : Option Tmp} {T : TypeId} {p : String} {af : Array Edge}
theorem qe5 {x:Operand} {t e:TypeId} {lo hi:Option Operand} {sz:Nat} {agg:Bool} {xs:List AV} {i j:Nat} (hx:Wk (qj N s x) (.sl sz xs none)) (hu:E.P.underlying t=some (.slice e)) (ht:tyOf E.P e=some (sz,agg))
  (s8:match lo with|none=>i=0|some y=>∃ k,qj N s y = .v (.int k (i:Int))) (p5:match hi with|none=>j=xs.length|some y=>∃ k,qj N s y = .v (.int k (j:Int))) (h1:i≤j) (h2:j≤xs.length)
  (h:AOps E rd N ops rest K (s.put d (.sl sz ((xs.take j).drop i) none))):AOps E rd N ops (⟨d,.slice t x lo hi none,T,p,af,none⟩::rest) K s:=by
 refine q7 rfl (qy nofun fun B0 w0 G a w _ hI=>?_);have he:=hx _ _ (hI.eval x);generalize hv:a.eval x=v at he;have dv:∃ b len cap,v = .slice b len cap:=by cases he <;> exact⟨_,_,_,rfl⟩
 obtain⟨b,len,cap,rfl⟩:=dv;obtain⟨hl,hlc,hr⟩:=qs8 he h1 h2;refine⟨_,w,G,_,s.st,?_,.refl G,hI.agree,hr,h⟩
 have a8:=qtd hu ht b len cap (lo.map a.eval) (hi.map a.eval) i j w (by
  cases lo with
  |none=>exact s8
  |some y=>obtain⟨k,hy⟩:=s8;exact⟨k,hI.evalv hy⟩) (by
  cases hi with
  |none=>simp only at p5;simp only [Option.map_none];omega
  |some y=>obtain⟨k,hy⟩:=p5;exact⟨⟨k,hI.evalv hy⟩,by omega⟩) h1
 generalize a.eval = ρ at hv a8;simp only [execOp,hv];simp [Instr.sliceAt,run_underlying hu,a8]
theorem qre {x y:Operand} {t e:TypeId} {sz:Nat} {agg:Bool} {xs:List AV} {k:IntKind} {i:Int} {n:Nat} {z:AV} (hx:Wk (qj N s x) (.sl sz xs none)) (hy:qj N s y = .v (.int k i)) (hu:E.P.underlying t=some (.slice e)) (ht:tyOf E.P e=some (sz,agg)) (hi:i=n) (hz:xs[n]? = some z)
  (h:AOps E rd N ops rest K (s.put d (.pp z.cells))):AOps E rd N ops (⟨d,.indexAddr t x y,T,p,af,none⟩::rest) K s:=by
 refine q7 rfl (qy nofun fun B0 w0 G a w _ hI=>?_);subst hi;have he:=hx _ _ (hI.eval x);have r9:=hI.evalv hy;generalize hv:a.eval x=v at he;have d6:=lt_of_getElem? hz
 cases he with
 |sl0=>simp at hz
 |sl _ _ _ b off cap pub hp hw c8 f0 htip i8=>
  have cm:z.cells.length=sz:=hw z (List.mem_of_getElem? hz);have i3:=zo hw;have d5:(n+1) * sz≤xs.length * sz:=Nat.mul_le_mul_right _ d6;rw [Nat.succ_mul] at d5;refine⟨.pointer (some ⟨b,off+n * sz,none⟩),w,G,.pp z.cells,s.st,?_,.refl G,hI.agree,?_,h⟩
  ·generalize a.eval = ρ at hv r9
   simp only [execOp,hv,r9];simp [Instr.indexAt,asIntOf,run_underlying hu,d6,(kw ht w).1,Addr.add_lit]
  ·refine .pp _ b _ pub hp (by omega) fun j q r h1 h2=>?_
   have hj:j<sz:=by have:=lt_of_getElem? h1;omega
   have hf:=qla hw hz j hj;exact f0 (n * sz+j) q r (by rw [hf];exact h1) (by rw [← h2];congr 1;omega)
theorem qyf {x y:Operand} {t u T':TypeId} {sz bytes:Nat} {xs ys:List AV} {c:AV} (hx:qj N s x=c) (hy:Wk (qj N s y) (.sl sz ys none))
  (ht:E.P.underlying t=some (.slice T')) (hu:E.P.underlying u=some (.slice T')) (hT:w7 E.P T' sz bytes) (hc:TipO 0 s.st sz T' xs c) (e8:jr (flat ys)=true) (l9:xs.length+ys.length≤maxLen) (hby:(xs.length+ys.length) * bytes≤140737488355328)
  (h:∀ c' st' t1,TipO 0 st' sz T' (xs++ys) c'→Fr s.st st' t1→(c = .sl sz xs (some t1)∨s.st.length≤t1)→(∀ o,zl c'=some o→o=t1)→AOps E rd N ops rest K (AS.put ⟨s.t,st',s.df⟩ d c')):AOps E rd N ops (⟨d,.call ⟨.builtin .append,#[x,y],#[t,u]⟩,T,p,af,none⟩::rest) K s:=by
 refine q7 rfl (qy nofun fun B0 w0 G a w _ hI=>?_);have hyr:Rel G (.sl sz ys none) (a.eval y):=hy _ _ (hI.eval y);rcases hc with (⟨gn,hcn⟩ | ⟨t1,h1,h2,h3⟩) | ⟨gn,o,ver,f,hco⟩
 ·subst gn
  have d5:=G.le_new 0 0 0 false;have hA:=hI.agree.newTip sz T';have hv:a.eval x = .slice none 0 0:=hI.evalv (hx.trans hcn);have hn:=hI.agree.n;obtain⟨news,k1,k2,k3⟩:=ya (P:=E.P) hA (hyr.mono d5) (by simpa [jr] using e8)
  have hr:Rel (G.new 0 0 0 false) (.sl sz [] (some s.st.length)) (a.eval x):=by
   rw [hv];exact .sl0 sz _ none 0 fun t ht=>by simp only [Option.some.injEq] at ht;subst ht;exact⟨by simp [Gh.new,hn],rfl,rfl⟩
  obtain⟨v',w',G',e1,e2,e3,e4⟩:=qbq (ty:=T) hA ht hu (.inr ⟨_,rfl⟩) hT (t:=s.st.length) (n:=0) (by simp) hr rfl rfl k1 k2 k3 (by simpa using l9) (by simpa using hby);refine⟨v',w',G',_,_,?_,d5.trans e2,e3,e4,h _ _ s.st.length (.inl (.inr ⟨s.st.length,rfl,?_,Nat.zero_le _⟩)) ⟨by simp,fun k hk d6=>?_⟩ (.inr (Nat.le_refl _)) (fun o ho=>by simp only [zl,Option.some.injEq] at ho;exact ho.symm)⟩
  ·generalize a.eval = ρ at e1
   simp [execOp,resolve,invoke,builtin,e1]
  ·simp
  ·rw [List.getElem?_set_ne (Ne.symm hk),List.getElem?_append_left d6]
 ·obtain⟨news,k1,k2,k3⟩:=ya (P:=E.P) hI.agree hyr (by simpa [jr] using e8)
  obtain⟨v',w',G',e1,e2,e3,e4⟩:=qbq (ty:=T) hI.agree ht hu (.inr ⟨_,rfl⟩) hT h2 (hI.eval_of (hx.trans h1)) rfl rfl k1 k2 k3 l9 hby;refine⟨v',w',G',_,_,?_,e2,e3,e4,h _ _ t1 (.inl (.inr ⟨t1,rfl,?_,Nat.zero_le _⟩)) ⟨by simp,fun k hk d6=>?_⟩ (.inl h1) (fun o ho=>by simp only [zl,Option.some.injEq] at ho;exact ho.symm)⟩
  ·generalize a.eval = ρ at e1
   simp [execOp,resolve,invoke,builtin,e1]
  ·rw [List.length_append]
   exact ke h2
  ·rw [List.getElem?_set_ne (Ne.symm hk)]
 ·subst gn
  have he:=hI.eval_of (hx.trans hco);obtain⟨news,k1,k2,k3⟩:=ya (P:=E.P) hI.agree hyr (by simpa [jr] using e8);have hex:=hT.ex;obtain⟨i,z,hi,hz,f8,pn,cm⟩:=hex;generalize hv:a.eval x=v at he
  cases he with
  |os _ _ _ _ blk _ hn hvv hbb=>
   by_cases gk:ys.length=0
   ·have ld:ys=[]:=List.eq_nil_of_length_eq_zero gk
    subst ld
    have hk1':Src E.P w (a.eval y) 0 i.size []:=by
     have:news=[]:=List.eq_nil_of_length_eq_zero (by simpa using k1.count);rw [f8];rw [this] at k1;exact k1
    refine⟨_,w,G,_,s.st,?_,.refl G,hI.agree,.os o ver f 0 blk 0 hn hvv hbb,h _ s.st s.st.length (.inr ⟨rfl,o,ver,f,rfl⟩) ⟨Nat.le_refl _,fun _ _ _=>rfl⟩ (.inr (Nat.le_refl _)) (fun o ho=>by simp [zl] at ho)⟩;have:=qbz (ty:=T) ht hu (.inr ⟨_,rfl⟩) hi hk1' (some ⟨blk,f,none⟩) 0 0 (Nat.le_refl _);generalize a.eval = ρ at hv this;simp [execOp,resolve,invoke,builtin,hv,this]
   ·have d5:=G.le_new 0 0 0 false
    have hA:=hI.agree.newTip sz T';have hz63:0+ys.length≤maxLen:=by simpa using l9
    obtain⟨v',w',G',e1,e2,e3,e4⟩:=qq7 (ty:=T) hA ht hu (.inr ⟨_,rfl⟩) hT (t:=s.st.length) (n:=0) (xs:=[]) (by simp) rfl rfl k1 k2 (fun i a b h1 h2=>(k3 i a b h1 h2).mono d5) hz63 (some ⟨blk,f,none⟩) 0 []
     (run_firstCells_some w.drew sz 0 ⟨blk,f,none⟩ 0 0 [] (by simp) (by simp)) (by omega) (by simp) (by simp [flat]) (by simp) (by simp [flat]) (by rw [Nat.zero_add,nextslicecap_zero (by omega)];have:=hby;simp at this;omega) gk
    refine⟨v',w',G',_,_,?_,d5.trans e2,e3,e4,h _ _ s.st.length (.inl (.inr ⟨s.st.length,rfl,?_,Nat.zero_le _⟩)) ⟨by simp,fun k hk d6=>?_⟩ (.inr (Nat.le_refl _)) (fun o ho=>by simp only [zl,Option.some.injEq] at ho;exact ho.symm)⟩
    ·generalize a.eval = ρ at e1 hv
     simp [execOp,resolve,invoke,builtin,hv,e1]
    ·simp
    ·rw [List.getElem?_set_ne (Ne.symm hk),List.getElem?_append_left d6]
theorem qpv {t e:TypeId} {len sz:Nat} {agg:Bool} {parts:Array (Nat×Operand)} {zs cs xs:List AV} (ps:List (Nat×AV)) (t6:(vi N s parts).length=ps.length) (rt:∀ (i:Nat) (q p:Nat×AV),(vi N s parts)[i]? = some q→ps[i]? = some p→q.1=p.1∧Wk q.2 p.2)
  (hu:E.P.underlying t=some (.slice e)) (ht:tyOf E.P e=some (sz,agg)) (hz:qdy E.P e len=some zs)
  (hf:qb8 (fun i=>some (i * sz,sz)) zs ps=some cs) (c8:xs.length=len) (i3:flat xs=cs) (hw:∀ x∈xs,x.cells.length=sz) (f8:Nat.ble (len * sz) 16777216=true)
  (h:AOps E rd N ops rest K (s.put d (.sl sz xs none))):AOps E rd N ops (⟨d,.buildSlice t len parts,T,p,af,none⟩::rest) K s:=by
 refine q7 rfl (qy nofun fun B0 w0 G a w _ hI=>?_)
 have hparts:∀ (i:Nat) (p:Nat×AV) (v:Nat×Value),ps[i]? = some p→(parts.toList.map fun x=>(x.1,a.eval x.2))[i]? = some v→p.1=v.1∧Rel G p.2 v.2:=fun i p v hp hv=>by
  have hi:i<(vi N s parts).length:=by rw [t6];exact lt_of_getElem? hp
  have hq:(vi N s parts)[i]? = some (vi N s parts)[i]:=List.getElem?_eq_getElem hi;obtain⟨h1,h2⟩:=rt i _ p hq hp;obtain⟨h3,h4⟩:=qjk hI parts i _ v hq hv;exact⟨h1.symm.trans h3,h2 _ _ h4⟩
 have u0:=(kw ht w).1;have f8:=Nat.le_of_ble_eq_true f8
 have hrunE:∃ c':Array Value,(execOp a.eval ⟨d,.buildSlice t len parts,T,p,af,none⟩).run E.P w = .ok (.value (.slice (some ⟨w.heap.size,0,none⟩) len len)) (w.alloc (.cells c' e))∧RelC G cs c':=by
  unfold qdy at hz
  cases hi:E.P.info? e with
  |none=>rw [hi] at hz;simp at hz
  |some i=>
   rw [hi] at hz;simp only at hz;have hs:i.size=sz:=by simpa [sizeOf,typeInfo,hi] using u0
   rw [hs] at hz
   have key:∃ c0:Array Value,RelC G zs c0∧∀ (Q:Array Value→Sem Value),((do
     let zero ← if len * sz=0 then pure #[] else do pure (← zeroValue e).cells
     Q ((Array.range (len * sz)).map (zero[· % zero.size]!)):Sem Value)).run E.P w=(Q c0).run E.P w:=by
    by_cases h0:len * sz=0
    ·rw [h0] at hz
     simp at hz;subst hz;exact⟨#[],⟨rfl,by simp⟩,fun Q=>by have e:Array.range 0 = #[]:=(by simp [Array.range]);simp [h0,e]⟩
    ·have:Nat.beq (len * sz) 0=false:=jb h0
     rw [this] at hz;simp only [cond_false] at hz
     cases hzr:i.zero with
     |none=>rw [hzr] at hz;simp at hz
     |some z=>
      rw [hzr] at hz;simp only [Option.map_some,Option.some.injEq] at hz;subst hz;refine⟨(Array.range (len * sz)).map (z.cells[· % z.cells.size]!),⟨by simp,fun k x y h1 h2=>?_⟩,fun Q=>by simp [h0,zeroValue,typeInfo,hi,hzr]⟩;have hk:k<len * sz:=by have:=lt_of_getElem? h1;simpa using this
      simp [hk] at h1 h2;subst h1;subst h2;exact .v _
   obtain⟨c0,hc0,tw⟩:=key;obtain⟨c',h1,h2⟩:=qh9 (fun i=>some (i * sz,sz)) ps (parts.toList.map fun x=>(x.1,a.eval x.2)) zs c0 cs (by rw [← t6];simp [vi]) hparts hc0 hf;refine⟨c',?_,h2⟩;generalize a.eval = ρ at h1;have hb:¬ 16777216<len * sz:=by omega
   have hg:∃ m:String,(execOp ρ ⟨d,.buildSlice t len parts,T,p,af,none⟩).run E.P w=(((do
    let zero ← if len * sz=0 then pure #[] else do pure (← zeroValue e).cells
    (fun c=>(do
    let some cells:=Instr.fill (fun i=>some (i * sz,sz)) c (parts.map fun x=>(x.1,ρ x.2)).toList|stuck m
    pure (Value.slice (some (← newRow e cells)) len len):Sem Value)) ((Array.range (len * sz)).map (zero[· % zero.size]!)):Sem Value)).run E.P w).andThen fun v w'=>.ok (.value v) w':=by
    apply Exists.intro;simp only [execOp,Instr.buildSlice];simp [run_underlying hu,u0,hb];rfl
   obtain⟨m,hg⟩:=hg
   have hQ:=tw (fun c=>do
    let some cells:=Instr.fill (fun i=>some (i * sz,sz)) c (parts.map fun x=>(x.1,ρ x.2)).toList|stuck m
    pure (.slice (some (← newRow e cells)) len len))
   rw [hg,hQ];simp [h1,newRow,newObj,Sem.run]
 obtain⟨c',a8,h2⟩:=hrunE;obtain⟨d5,hA⟩:=hI.agree.newPub e c' (0,0) c'.toList (fun i y hy=>by simpa using hy);refine⟨.slice (some ⟨w.heap.size,0,none⟩) len len,w.alloc (.cells c' e),_,.sl sz xs none,s.st,a8,d5,hA,?_,h⟩;rw [← c8]
 cases xs with
 |nil=>exact .sl0 sz none _ _ (by simp)
 |cons x0 xr=>
  refine .sl sz _ none w.heap.size 0 _ c'.toList (by simp [Gh.publish]) hw (by rw [i3,h2.1];simp) (fun k x y g1 g2=>?_) (fun t ht=>by simp at ht) (Nat.le_refl _);rw [i3] at g1;exact (h2.2 k x y g1 (by simpa using g2)).mono d5
end
def je {α : Type}:Nat→List α→List (Nat×α)
 | _,[]=>[]
 |i,x::r=>(i,x)::je (i+1) r
theorem qk9 {sz:Nat}:∀ (ys:List AV) (k:Nat) (done zs:List AV),(∀ y∈ys,y.okc=true∧y.cells.length=sz)→done.length=k * sz→zs.length=ys.length * sz →
  qb8 (fun i=>some (i * sz,sz)) (done++zs) (je k ys)=some (done++flat ys)
 | [],k,done,zs,_,_,hz=>by
  have:zs=[]:=List.eq_nil_of_length_eq_zero (by simpa using hz);subst this
  rfl
 |y::r,k,done,zs,hy,hd,hz=>by
  obtain⟨h1,h2⟩:=hy y (by simp);simp only [List.length_cons,Nat.succ_mul] at hz;simp only [je,qb8,h1,h2];have hb:Nat.beq sz sz=true:=by simp
  have hl:Nat.ble (k * sz+sz) (done++zs).length=true:=Nat.ble_eq_true_of_le (by simp;omega);rw [hb,hl]
  have e:zr (done++zs) (k * sz) y.cells=(done++y.cells)++zs.drop sz:=by
   unfold zr;rw [← hd,List.take_left,h2,List.drop_append];simp
  simp only [Bool.and_self,cond_true];rw [e,qk9 r (k+1) (done++y.cells) (zs.drop sz) (fun y' hy'=>hy y' (by simp [hy'])) (by simp [hd,h2,Nat.succ_mul]) (by simp;omega)];simp [flat]
def qkn (P:Program):Nat→TypeId→List (Option Nat)
 | 0,_=>[none]
 |n+1,t=>match P.underlying t with
  |some (.struct fs)=>fs.toList.flatMap fun f=>qkn P n f.type
  |some (.slice e)=>(match tyOf P e with
   |some (sz,_)=>[some sz]
   |none=>[none])
  | _=>[none]
def nrm1:Option Nat→AV→AV
 |some sz,.v (.slice none 0 0)=>.sl sz [] none
 | _,x=>x
def nrmL:List (Option Nat)→List AV→List AV
 |k::r,x::s=>nrm1 k x::nrmL r s
 | _,l=>l
def nrmT (P:Program) (t:TypeId) (x:AV):AV:=
 match x with
 | .ag cs=>.ag (nrmL (qkn P 4 t) cs)
 | .v (.slice none 0 0)=>(match qkn P 1 t with
  | [k]=>nrm1 k (.v (.slice none 0 0))
  | _=>.v (.slice none 0 0))
 |x=>x
def zipT (P:Program):List TypeId→List AV→List AV
 |t::r,x::s=>nrmT P t x::zipT P r s
 | _,l=>l
theorem q46 (k:Option Nat) (x:AV):Wk x (nrm1 k x):=by
 unfold nrm1;split
 ·exact fun _ _ h=>qbb h
 ·exact wa _
theorem q4j:∀ (ks:List (Option Nat)) (l:List AV),l.length=(nrmL ks l).length∧∀ (i:Nat) (x y:AV),l[i]? = some x→(nrmL ks l)[i]? = some y→Wk x y
 | [],l=>⟨by simp [nrmL],fun i x y hx hy=>by simp only [nrmL] at hy;rw [hx] at hy;simp only [Option.some.injEq] at hy;subst hy;exact wa _⟩
 |k::r,[]=>⟨by simp [nrmL],fun i x y hx=>by simp at hx⟩
 |k::r,z::s=>by
  obtain⟨h1,h2⟩:=q4j r s;refine⟨by simp [nrmL,h1],fun i x y hx hy=>?_⟩;simp only [nrmL] at hy
  cases i with
  |zero=>simp at hx hy;subst hx;subst hy;exact q46 k _
  |succ i=>exact h2 i x y (by simpa using hx) (by simpa using hy)
theorem zhs (P:Program) (t:TypeId) (x:AV):Wk x (nrmT P t x):=by
 unfold nrmT;split
 ·obtain⟨h1,h2⟩:=q4j (qkn P 4 t) (by assumption)
  exact q7m h1 h2
 ·split
  ·exact q46 _ _
  ·exact wa _
 ·exact wa _
theorem q5b (P:Program):∀ (ts:List TypeId) (l:List AV),l.length=(zipT P ts l).length∧∀ (i:Nat) (x y:AV),l[i]? = some x→(zipT P ts l)[i]? = some y→Wk x y
 | [],l=>⟨by simp [zipT],fun i x y hx hy=>by simp only [zipT] at hy;rw [hx] at hy;simp only [Option.some.injEq] at hy;subst hy;exact wa _⟩
 |t::r,[]=>⟨by simp [zipT],fun i x y hx=>by simp at hx⟩
 |t::r,z::s=>by
  obtain⟨h1,h2⟩:=q5b P r s;refine⟨by simp [zipT,h1],fun i x y hx hy=>?_⟩;simp only [zipT] at hy
  cases i with
  |zero=>simp at hx hy;subst hx;subst hy;exact zhs P t _
  |succ i=>exact h2 i x y (by simpa using hx) (by simpa using hy)
def qsg:AV→Bool
 | .v (.slice none 0 0)=>true
 | _=>false
theorem qv3 {x:AV} (h:qsg x=true):x=zy:=by
 unfold qsg at h;split at h
 ·rfl
 ·simp at h
def fcN (n:Nat) (k:Nat→Prop):Prop:=
 bif Nat.beq n 1 then k 1 else bif Nat.beq n 2 then k 2 else bif Nat.beq n 3 then k 3 else bif Nat.beq n 4 then k 4 else bif Nat.beq n 5 then k 5 else k n
theorem qm7 (n:Nat) (k:Nat→Prop):fcN n k=k n:=by
 unfold fcN;by_cases h1:n=1
 ·subst h1;rfl
 rw [jb h1];by_cases h2:n=2
 ·subst h2;rfl
 rw [jb h2];by_cases h3:n=3
 ·subst h3;rfl
 rw [jb h3];by_cases h4:n=4
 ·subst h4;rfl
 rw [jb h4];by_cases h5:n=5
 ·subst h5;rfl
 rw [jb h5];rfl
def qst:List (Option Nat)→List AV→(List AV→Prop)→Prop
 |c::r,x::s,k=>(match qsg x,c with
  |true,some sz=>fcN sz fun sz=>qst r s fun l=>k (.sl sz [] none::l)
  | _,_=>qst r s fun l=>k (x::l))
 | _,l,k=>k l
def q6q:List AV→Bool
 | []=>false
 |x::r=>qsg x ||q6q r
def nrmK (P:Program) (t:TypeId) (x:AV) (k:AV→Prop):Prop:=
 match q6q x.cells with
 |false=>k x
 |true=>(match x with
  | .ag cs=>qst (qkn P 4 t) cs fun l=>k (.ag l)
  |x=>(match qkn P 1 t with
   | [some sz]=>fcN sz fun sz=>k (.sl sz [] none)
   | _=>k x))
def WkL (l m:List AV):Prop:=l.length=m.length∧∀ (i:Nat) (x y:AV),l[i]? = some x→m[i]? = some y→Wk x y
theorem qow:WkL [] []:=⟨rfl,fun i x y h=>by simp at h⟩
theorem qiq {x y:AV} {l m:List AV} (h:Wk x y) (hl:WkL l m):WkL (x::l) (y::m):=⟨by simp [hl.1],fun i a b ha hb=>by
 cases i with
 |zero=>simp at ha hb;subst ha;subst hb;exact h
 |succ i=>exact hl.2 i a b (by simpa using ha) (by simpa using hb)⟩
theorem qq4:∀ l:List AV,WkL l l
 | []=>qow
 |x::r=>qiq (wa x) (qq4 r)
theorem qqn:∀ (cs:List (Option Nat)) (l:List AV) (k:List AV→Prop),qst cs l k→∃ m,WkL l m∧k m
 | [],l,k,h=>⟨l,qq4 l,by cases l <;> exact h⟩
 |c::r,[],k,h=>⟨[],qow,h⟩
 |c::r,x::s,k,h=>by
  simp only [qst] at h;split at h
  ·rename_i sz hx
   rw [qm7] at h;obtain⟨m,h1,h2⟩:=qqn r s _ h;exact⟨_,qiq (by rw [qv3 hx];exact fun _ _ h=>qbb h) h1,h2⟩
  ·obtain⟨m,h1,h2⟩:=qqn r s _ h
   exact⟨_,qiq (wa x) h1,h2⟩
theorem qud {P:Program} {t:TypeId} {x:AV} {k:AV→Prop} (h:nrmK P t x k):∃ y,Wk x y∧k y:=by
 unfold nrmK at h;split at h
 ·exact⟨x,wa x,h⟩
 ·rename_i hn
  split at h
  ·rename_i cs
   obtain⟨m,h1,h2⟩:=qqn _ _ _ h;exact⟨_,q7m h1.1 h1.2,h2⟩
  ·rename_i hx
   split at h
   ·rename_i sz _
    rw [qm7] at h
    have:x=zy:=by
     have hc:x.cells=[x]:=by cases x <;> first|rfl|exact absurd rfl (hx _)
     rw [hc] at hn;simp only [q6q,Bool.or_false] at hn;exact qv3 hn
    exact⟨_,by rw [this];exact fun _ _ h=>qbb h,h⟩
   ·exact⟨x,wa x,h⟩
def q6s (P:Program) (t:TypeId):List AV→(List AV→Prop)→Prop
 | [],k=>k []
 |x::r,k=>nrmK P t x fun x=>q6s P t r fun r=>k (x::r)
theorem q0c {P:Program} {t:TypeId}:∀ {l:List AV} {k:List AV→Prop},q6s P t l k→∃ m,WkL l m∧k m
 | [],k,h=>⟨[],qow,h⟩
 |x::r,k,h=>by
  obtain⟨y,h1,h2⟩:=qud h;obtain⟨m,h3,h4⟩:=q0c h2;exact⟨_,qiq h1 h3,h4⟩
def zipK (P:Program):List TypeId→List AV→(List AV→Prop)→Prop
 |t::r,x::s,k=>nrmK P t x fun x=>zipK P r s fun l=>k (x::l)
 | _,l,k=>k l
theorem q5a {P:Program}:∀ {ts:List TypeId} {l:List AV} {k:List AV→Prop},zipK P ts l k→∃ m,WkL l m∧k m
 | [],l,k,h=>⟨l,qq4 l,by cases l <;> exact h⟩
 |t::r,[],k,h=>⟨[],qow,h⟩
 |t::r,x::s,k,h=>by
  obtain⟨y,h1,h2⟩:=qud h;obtain⟨m,h3,h4⟩:=q5a h2;exact⟨_,qiq h1 h3,h4⟩
def qrx (P:Program) (T:TypeId):Option (Nat×Nat):=
 match P.info? T with
 |some i=>(match i.zero with
  |some z=>bif Nat.beq z.cells.size i.size then some (i.size,i.bytes) else none
  |none=>none)
 |none=>none
theorem qfp {P:Program} {T:TypeId} {sz bytes:Nat} (h:qrx P T=some (sz,bytes)):w7 P T sz bytes:=by
 unfold qrx at h;split at h
 ·rename_i i hi
  split at h
  ·rename_i z hz
   cases hb:Nat.beq z.cells.size i.size with
   |false=>rw [hb] at h;simp at h
   |true=>
    rw [hb] at h;simp only [cond_true,Option.some.injEq,Prod.mk.injEq] at h;exact⟨i,z,hi,hz,h.1,h.2,(Nat.eq_of_beq_eq_true hb).trans h.1⟩
  ·simp at h
 ·simp at h
end Go.Av
namespace Go.Av
open Go Go.RowKit
section
variable {E : Env} {N : Nat} {ops : Array Oper} {nx : Nat} {sl : List (Nat × SV)} {H : Nat → Option SR} {k : Ef → Prop} {d : Option Tmp} {T : TypeId} {p : String} {af : Array Edge}
def bndW (v:Option SV) (q:Nat→Prop):Prop:=
 match v with
 |some v=>(match qan v with
  |some (_,n)=>∃ i:Nat,n=(i:Int)∧q i
  |none=>False)
 |none=>False
theorem qcf {x:Operand} {q:Nat→Prop} (h:bndW (sval N sl x) q):∃ (i:Nat) (kd:IntKind),(∀ {ρ t:Nat→AV} {S:List AObj} {df:List Nat},SlOk ρ t sl→qj N ⟨t,S,df⟩ x = .v (.int kd (i:Int)))∧q i:=by
 unfold bndW at h;split at h
 ·rename_i v hv
  split at h
  ·rename_i kd n hn
   obtain⟨i,rfl,h⟩:=h;exact⟨i,kd,fun hs=>(qv hs hv).trans (xo hn _),h⟩
  ·exact h.elim
 ·exact h.elim
def qja:Option TypeDesc→Bool
 |some .string=>true
 | _=>false
theorem qqf {u:Option TypeDesc} (h:qja u=true):u=some .string:=by
 unfold qja at h;split at h
 ·rfl
 ·simp at h
def elT:Option TypeDesc→Option TypeId
 |some (.slice e)=>some e
 | _=>none
theorem ww {u:Option TypeDesc} {e:TypeId} (h:elT u=some e):u=some (.slice e):=by
 unfold elT at h;split at h
 ·simp only [Option.some.injEq] at h;subst h;rfl
 ·simp at h
def q1n (P:Program) (N:Nat) (sl:List (Nat×SV)) (H:Nat→Option SR) (nx:Nat) (k:Ef→Prop) (t:TypeId) (x:Operand) (lo hi:Option Operand):Prop:=
 match sval N sl x with
 |some (.s l)=>bif qja (P.underlying t) then (match lo,hi with
  |none,none=>k (vu nx (.s l))
  |some y,none=>bndW (sval N sl y) fun i=>i≤l.length∧k (vu nx (.s (l.drop i)))
  |none,some z=>bndW (sval N sl z) fun j=>j≤l.length∧k (vu nx (.s (l.take j)))
  |some y,some z=>bndW (sval N sl y) fun i=>bndW (sval N sl z) fun j=>i≤j∧j≤l.length∧k (vu nx (.s ((l.take j).drop i)))) else False
 |some v=>(match elT (P.underlying t) with
  |some e=>(match tyOf P e with
   |some (sz,_)=>(match qi6 H sz v with
    |some (xs,ks)=>(match lo,hi with
     |none,none=>k ⟨.a (.sl sz xs none),ks,[],nx⟩
     |some y,none=>bndW (sval N sl y) fun i=>i≤xs.length∧k ⟨.a (.sl sz (xs.drop i) none),ks,[],nx⟩
     |none,some z=>bndW (sval N sl z) fun j=>j≤xs.length∧k ⟨.a (.sl sz (xs.take j) none),ks,[],nx⟩
     |some y,some z=>bndW (sval N sl y) fun i=>bndW (sval N sl z) fun j=>i≤j∧j≤xs.length∧k ⟨.a (.sl sz ((xs.take j).drop i) none),ks,[],nx⟩)
    |none=>False)
   |none=>False)
  |none=>False)
 |none=>False
theorem zd0 {t:TypeId} {x:Operand} {lo hi:Option Operand} (h:q1n E.P N sl H nx k t x lo hi):∃ e,Loc E N ops ⟨d,.slice t x lo hi none,T,p,af,none⟩ nx sl H e∧k e:=by
 unfold q1n at h;split at h
 ·rename_i l hv
  cases hu:qja (E.P.underlying t) with
  |false=>rw [hu] at h;exact h.elim
  |true=>
   rw [hu] at h;simp only [cond_true] at h;have hu:=qqf hu;split at h
   ·exact⟨_,z8 (v:=.s l) fun df rd K rest ρ t' S hs hk=>qdr (i:=0) (j:=l.length) (qv hs hv) hu rfl rfl (by omega) (by omega) (by omega) (by simpa [SV.ev] using hk),h⟩
   ·obtain⟨i,kd,hi,h1,h⟩:=qcf h
    exact⟨_,z8 (v:=.s (l.drop i)) fun df rd K rest ρ t' S hs hk=>qmt (qv hs hv) (hi hs) hu h1 hk,h⟩
   ·obtain⟨j,kd,hj,h1,h⟩:=qcf h
    exact⟨_,z8 (v:=.s (l.take j)) fun df rd K rest ρ t' S hs hk=>qiu (qv hs hv) (hj hs) hu h1 hk,h⟩
   ·obtain⟨i,kd,hi,h⟩:=qcf h
    obtain⟨j,kd',hj,h1,h2,h⟩:=qcf h;exact⟨_,z8 (v:=.s ((l.take j).drop i)) fun df rd K rest ρ t' S hs hk=>qit (qv hs hv) (hi hs) (hj hs) hu h1 h2 hk,h⟩
 ·rename_i v hns hv
  split at h
  ·rename_i e he
   have hu:=ww he;split at h
   ·rename_i sz agg ht
    split at h
    ·rename_i xs ks ct
     split at h
     ·exact⟨_,xp (v:=.a (.sl sz xs none)) fun df rd K rest ρ t' S hs hS hk=>qe5 (i:=0) (j:=xs.length) (by rw [qv hs hv];exact qea ct hS) hu ht rfl rfl (by omega) (by omega) (by simpa [SV.ev] using hk),h⟩
     ·obtain⟨i,kd,hi,h1,h⟩:=qcf h
      exact⟨_,xp (v:=.a (.sl sz (xs.drop i) none)) fun df rd K rest ρ t' S hs hS hk=>qe5 (i:=i) (j:=xs.length) (by rw [qv hs hv];exact qea ct hS) hu ht ⟨kd,hi hs⟩ rfl h1 (by omega) (by simpa [SV.ev] using hk),h⟩
     ·obtain⟨j,kd,hj,h1,h⟩:=qcf h
      exact⟨_,xp (v:=.a (.sl sz (xs.take j) none)) fun df rd K rest ρ t' S hs hS hk=>qe5 (i:=0) (j:=j) (by rw [qv hs hv];exact qea ct hS) hu ht rfl ⟨kd,hj hs⟩ (by omega) h1 (by simpa [SV.ev] using hk),h⟩
     ·obtain⟨i,kd,hi,h⟩:=qcf h
      obtain⟨j,kd',hj,h1,h2,h⟩:=qcf h;exact⟨_,xp (v:=.a (.sl sz ((xs.take j).drop i) none)) fun df rd K rest ρ t' S hs hS hk=>qe5 (i:=i) (j:=j) (by rw [qv hs hv];exact qea ct hS) hu ht ⟨kd,hi hs⟩ ⟨kd',hj hs⟩ h1 h2 (by simpa [SV.ev] using hk),h⟩
    ·exact h.elim
   ·exact h.elim
  ·exact h.elim
 ·exact h.elim
def qzv (P:Program) (N:Nat) (sl:List (Nat×SV)) (nx:Nat) (k:Ef→Prop) (t:TypeId) (x y:Operand):Prop:=
 match sval N sl x with
 |some (.s l)=>bif qja (P.underlying t) then bndW (sval N sl y) fun i=>i<l.length∧k (vu nx (.a (Uv (l.getD i 0)))) else False
 | _=>False
theorem zcr {t:TypeId} {x y:Operand} (h:qzv E.P N sl nx k t x y):∃ e,Loc E N ops ⟨d,.index t x y,T,p,af,none⟩ nx sl H e∧k e:=by
 unfold qzv at h;split at h
 ·rename_i l hv
  cases hu:qja (E.P.underlying t) with
  |false=>rw [hu] at h;exact h.elim
  |true=>
   rw [hu] at h;simp only [cond_true] at h;obtain⟨i,kd,hi,h1,h⟩:=qcf h;exact⟨_,z8 (v:=.a (Uv (l.getD i 0))) fun df rd K rest ρ t' S hs hk=>xn (qv hs hv) (hi hs) (qqf hu) h1 hk,h⟩
 ·exact h.elim
def qlh (P:Program) (N:Nat) (sl:List (Nat×SV)) (H:Nat→Option SR) (nx:Nat) (k:Ef→Prop) (t:TypeId) (x y:Operand):Prop:=
 match sval N sl x,elT (P.underlying t) with
 |some v,some e=>(match tyOf P e with
  |some (sz,_)=>(match qi6 H sz v with
   |some (xs,ks)=>bndW (sval N sl y) fun i=>∃ z,xs[i]? = some z∧k ⟨.a (.pp z.cells),ks,[],nx⟩
   |none=>False)
  |none=>False)
 | _,_=>False
theorem qzu {t:TypeId} {x y:Operand} (h:qlh E.P N sl H nx k t x y):∃ e,Loc E N ops ⟨d,.indexAddr t x y,T,p,af,none⟩ nx sl H e∧k e:=by
 unfold qlh at h;split at h
 ·rename_i v e hv he
  split at h
  ·rename_i sz agg ht
   split at h
   ·rename_i xs ks ct
    obtain⟨i,kd,hi,z,hz,h⟩:=qcf h;exact⟨_,xp (v:=.a (.pp z.cells)) fun df rd K rest ρ t' S hs hS hk=>qre (by rw [qv hs hv];exact qea ct hS) (hi hs) (ww he) ht rfl hz hk,h⟩
   ·exact h.elim
  ·exact h.elim
 ·exact h.elim
def lenW (P:Program) (H:Nat→Option SR) (nx:Nat) (k:Ef→Prop) (t:TypeId):Option SV→Prop
 |some (.s l)=>bif qja (P.underlying t) then k (vu nx (.i l.length)) else False
 |some (.tp b)=>(match H b,elT (P.underlying t) with
  |some (.tip _ _ xs),some _=>k ⟨.i xs.length,[b],[],nx⟩
  |some (.own _ _ xs),some _=>k ⟨.i xs.length,[b],[],nx⟩
  | _,_=>False)
 |some (.a x)=>(match lenA x,elT (P.underlying t) with
  |some n,some _=>k (vu nx (.i n))
  | _,_=>False)
 | _=>False
theorem za8 {b sz:Nat} {T:TypeId} {xs:List AV} {c:AV} {S:List AObj} (h:TipO b S sz T xs c):lenA c=some xs.length:=by
 rcases h with (⟨rfl,rfl⟩ | ⟨t,rfl,_⟩) | ⟨rfl,o,v,f,rfl⟩ <;> rfl
theorem qq1 {b sz:Nat} {T:TypeId} {xs:List AV} {c:AV} {S:List AObj} (h:TipO b S sz T xs c):tpAt c=c:=by
 unfold tpAt;rw [(quv h).2];rfl
theorem zc7 {sz:Nat} {T:TypeId} {xs:List AV} {c:AV} {S:List AObj} (h:OwnS S sz T xs c):lenA c=some xs.length:=by
 rcases h with⟨rfl,h⟩ | ⟨_,_,_,_,rfl,_⟩
 ·exact h.len
 ·rfl
theorem qc6 {sz:Nat} {T:TypeId} {xs:List AV} {c:AV} {S:List AObj} (h:OwnS S sz T xs c):tpAt c=c:=by
 rcases h with⟨_,h⟩ | ⟨_,_,_,_,rfl,_⟩
 ·unfold tpAt
  rw [h.one];rfl
 ·rfl
theorem ziq {t:TypeId} {ts:Array TypeId} {x:Operand} (ht:ts[0]? = some t) (h:lenW E.P H nx k t (sval N sl x)):∃ e,Loc E N ops ⟨d,.call ⟨.builtin .len,#[x],ts⟩,T,p,af,none⟩ nx sl H e∧k e:=by
 unfold lenW at h;split at h
 ·rename_i l hv
  cases hu:qja (E.P.underlying t) with
  |false=>rw [hu] at h;exact h.elim
  |true=>rw [hu] at h;exact⟨_,z8 (v:=.i l.length) fun df rd K rest ρ t' S hs hk=>jy (qv hs hv) ht (qqf hu) hk,h⟩
 ·rename_i b hv
  split at h
  ·rename_i sz T' xs e hb he
   refine⟨_,xp (v:=.i xs.length) fun df rd K rest ρ t' S hs hS hk=>?_,h⟩;have:=hS.ok b _ ((wx b).trans hb);exact ja (v:= ρ b) ((qv hs hv).trans (qq1 this)) (za8 this) ht (ww he) hk
  ·rename_i sz T' xs e hb he
   refine⟨_,xp (v:=.i xs.length) fun df rd K rest ρ t' S hs hS hk=>?_,h⟩;have:=hS.ok b _ ((wx b).trans hb);exact ja (v:= ρ b) ((qv hs hv).trans (qc6 this)) (zc7 this) ht (ww he) hk
  ·exact h.elim
 ·rename_i y hv
  split at h
  ·rename_i n e hn he
   exact⟨_,z8 (v:=.i n) fun df rd K rest ρ t' S hs hk=>ja (qv hs hv) hn ht (ww he) hk,h⟩
  ·exact h.elim
 ·exact h.elim
def qnc (H:Nat→Option SR) (sz:Nat) (T:TypeId):SV→Option (List AV×List Nat)
 | .tp b=>(match H b with
  |some (.tip z T' xs)=>bif Nat.beq z sz && Nat.beq T' T then some (xs,[b]) else none
  | _=>none)
 | .a (.v (.slice none 0 0))=>some ([],[])
 | _=>none
theorem q9a {S:List AObj} {ρ : Nat→AV} {v:SV} {sz:Nat} {T:TypeId} {xs:List AV} {ks ks':List Nat} (h:qnc H sz T v=some (xs,ks)) (hS:SatF S ρ (resF (ks++ks') H)):TipO 0 S sz T xs (v.ev ρ)∧∀ o,zl (v.ev ρ)=some o→∃ b,ks=[b]∧zl (ρ b)=some o:=by
 unfold qnc at h;split at h
 ·rename_i b
  split at h
  ·rename_i z T' ys hb
   cases hz:(Nat.beq z sz && Nat.beq T' T) with
   |false=>rw [hz] at h;simp at h
   |true=>
    rw [hz] at h;simp only [cond_true,Option.some.injEq,Prod.mk.injEq] at h;obtain⟨rfl,rfl⟩:=h;simp only [Bool.and_eq_true] at hz;have e1:=Nat.eq_of_beq_eq_true hz.1;have e2:=Nat.eq_of_beq_eq_true hz.2;subst e1;subst e2;have:=hS.ok b _ (by unfold resF;simp [memN];exact hb);have e:(SV.tp b).ev ρ = ρ b:=qq1 this;rw [e];exact⟨this,fun o ho=>⟨b,rfl,ho⟩⟩
  ·simp at h
 ·simp only [Option.some.injEq,Prod.mk.injEq] at h
  obtain⟨rfl,rfl⟩:=h;exact⟨.inl (.inl ⟨rfl,rfl⟩),fun o ho=>by simp [SV.ev,zl] at ho⟩
 ·simp at h
theorem q6j {v:SV} {sz:Nat} {T:TypeId} {xs:List AV} {ks:List Nat} (h:qnc H sz T v=some (xs,ks)):∀ b,ks=[b]→∃ z T ys,H b=some (.tip z T ys):=fun b hb=>by
 unfold qnc at h;split at h
 ·split at h
  ·rename_i b' z T' ys hk
   cases hz:(Nat.beq z sz && Nat.beq T' T) with
   |false=>rw [hz] at h;simp at h
   |true=>
    rw [hz] at h;simp only [cond_true,Option.some.injEq,Prod.mk.injEq] at h;rw [hb] at h;simp only [List.cons.injEq,and_true] at h;exact⟨z,T',ys,by rw [← h.2];exact hk⟩
  ·simp at h
 ·simp only [Option.some.injEq,Prod.mk.injEq] at h
  rw [hb] at h;simp at h
 ·simp at h
theorem qvs {v:SV} {sz:Nat} {xs:List AV} {ks:List Nat} (h:qi6 H sz v=some (xs,ks)):∀ b,memN ks b=true→∃ z T ys,H b=some (.tip z T ys):=fun b hb=>by
 unfold qi6 at h;split at h
 ·rename_i z ys tip
  cases hz:Nat.beq z sz with
  |false=>rw [hz] at h;simp at h
  |true=>
   rw [hz] at h;simp only [cond_true,Option.some.injEq,Prod.mk.injEq] at h;rw [← h.2] at hb;simp [memN] at hb
 ·simp only [Option.some.injEq,Prod.mk.injEq] at h
  rw [← h.2] at hb;simp [memN] at hb
 ·rename_i b'
  split at h
  ·rename_i z T' ys hk
   cases hz:Nat.beq z sz with
   |false=>rw [hz] at h;simp at h
   |true=>
    rw [hz] at h;simp only [cond_true,Option.some.injEq,Prod.mk.injEq] at h;rw [← h.2] at hb;simp only [memN,List.any_cons,List.any_nil,Bool.or_false] at hb;rw [Nat.eq_of_beq_eq_true hb];exact⟨z,T',ys,hk⟩
  ·simp at h
 ·simp at h
def appW (P:Program) (H:Nat→Option SR) (nx:Nat) (k:Ef→Prop) (t u:TypeId):Option SV→Option SV→Prop
 |some vx,some vy=>(match elT (P.underlying t),elT (P.underlying u) with
  |some e,some e'=>(match qrx P e with
   |some (sz,bytes)=>(match qnc H sz e vx,qi6 H sz vy with
    |some (xs,kx),some (ys,ky)=>bif Nat.beq e e' && Nat.blt 0 bytes && Nat.ble bytes 140737 && (kx++ky).all (fun b=> !Nat.beq b nx) then ((xs.length+ys.length≤1000000000∨(xs.length+ys.length) * bytes≤140737488355328)∧jr (flat ys)=true)∧k ⟨.tp nx,kx++ky,kx.map (fun b=>(b,none))++[(nx,some (.tip sz e (xs++ys)))],nx+1⟩ else False
    | _,_=>False)
   |none=>False)
  | _,_=>False)
 | _,_=>False
theorem q9l (l:List Nat) (k:Nat):lkS (l.map fun b=>(b,(none:Option SR))) k=bif memN l k then some none else none:=by
 induction l with
 |nil=>rfl
 |cons b r ih=>
  simp only [List.map_cons,lkS,memN,List.any_cons] at ih ⊢;by_cases h:b=k
  ·subst h
   have:Nat.beq b b=true:=by simp
   simp only [this,cond_true,Bool.true_or]
  ·rw [jb h,jb (fun e=>h e.symm),Bool.false_or]
   simp only [cond_false];exact ih
theorem qig (a b:List Nat) (k:Nat):memN (a++b) k=(memN a k ||memN b k):=by simp [memN]
theorem zhv {t u:TypeId} {x y:Operand} (h:appW E.P H nx k t u (sval N sl x) (sval N sl y)):∃ e,Loc E N ops ⟨d,.call ⟨.builtin .append,#[x,y],#[t,u]⟩,T,p,af,none⟩ nx sl H e∧k e:=by
 unfold appW at h;split at h
 ·rename_i vx vy hvx hvy
  split at h
  ·rename_i e e' he gf
   split at h
   ·rename_i sz bytes hb
    split at h
    ·rename_i xs kx ys ky hg ct
     cases hc:(Nat.beq e e' && Nat.blt 0 bytes && Nat.ble bytes 140737 && (kx++ky).all (fun b=> !Nat.beq b nx)) with
     |false=>rw [hc] at h;exact h.elim
     |true=>
      rw [hc] at h;simp only [Bool.and_eq_true] at hc;have ee:=Nat.eq_of_beq_eq_true hc.1.1.1;subst ee;have hbp:=kz hc.1.1.2;have gb:=Nat.le_of_ble_eq_true hc.1.2
      have s4:∀ b∈kx++ky,b≠nx:=fun b hb e=>by
       have:=List.all_eq_true.1 hc.2 b hb;subst e;simp at this
      obtain⟨⟨h1,h2⟩,h⟩:=h;refine⟨_,fun df rd K rest ρ t' S hs hS hk=>?_,h⟩;simp only at hS hk;obtain⟨hT,hl⟩:=q9a hg hS;have hSy:SatF S ρ (resF ky H):=⟨fun k r hk=>hS.ok k r (by have:=vq hk;unfold resF;rw [qig,this.1,Bool.or_true];exact this.2),fun k k' r r' b8 g1 g2=>hS.sep k k' r r' b8 (by have:=vq g1;unfold resF;rw [qig,this.1,Bool.or_true];exact this.2) (by have:=vq g2;unfold resF;rw [qig,this.1,Bool.or_true];exact this.2)⟩;have h47:(xs.length+ys.length) * bytes≤140737488355328:=h1.elim (fun h=>Nat.le_trans (Nat.mul_le_mul h gb) (by omega)) id;have l9:xs.length+ys.length≤maxLen:=Nat.le_trans (Nat.le_trans (Nat.le_mul_of_pos_right _ hbp) h47) (by decide);refine qyf (qv hs hvx) (by rw [qv hs hvy];exact qea ct hSy) (ww he) (ww gf) (qfp hb) hT h2 l9 h47 fun c' S' t1 g1 g2 g3 g4=>?_;simp only at g2 g3
      have tv:∀ b,kx=[b]→∃ r,resF (kx++ky) H b=some r:=fun b o6=>by
       obtain⟨z,T2,ys2,q⟩:=q6j hg b o6;refine⟨.tip z T2 ys2,?_⟩;unfold resF;rw [o6];simp [memN];exact q
      have key:∀ k r,chF (kx.map (fun b=>(b,none))++[(nx,some (.tip sz e (xs++ys)))]) (resF (kx++ky) H) k=some r→(k=nx∧r = .tip sz e (xs++ys))∨(k≠nx∧memN kx k=false∧resF (kx++ky) H k=some r):=fun k r hk=>by
       unfold chF at hk;rw [qcy] at hk;rw [q9l] at hk
       cases hm:memN kx k with
       |true=>rw [hm] at hk;simp at hk
       |false=>
        rw [hm] at hk;simp only [cond_false,lkS] at hk;by_cases hn:nx=k
        ·subst hn
         have:Nat.beq nx nx=true:=by simp
         rw [this] at hk;simp only [cond_true,Option.some.injEq] at hk;exact .inl ⟨rfl,hk.symm⟩
        ·rw [jb hn] at hk
         exact .inr ⟨fun e=>hn e.symm,rfl,hk⟩
      have d9:∀ k r,k≠nx→memN kx k=false→resF (kx++ky) H k=some r→∀ o,zl (ρ k)=some o→o≠t1∧o<S.length:=fun k r b8 hm hk o ho=>by
       have d6:=SR.ok_lt (hS.ok k r hk) ho;refine⟨fun e=>?_,d6⟩;subst e;rcases g3 with g3|g3
       ·obtain⟨b,o6,r8⟩:=hl o (by rw [g3];rfl)
        have hbk:b≠k:=fun e=>by subst e;rw [o6] at hm;simp [memN] at hm
        have hbr:=tv b o6;obtain⟨r',hbr⟩:=hbr;exact hS.sep b k r' r hbk hbr hk o r8 ho
       ·omega
      have:=hk (upd ρ nx c') S' ⟨fun k hk=>w9 _ _ (by simp only at hk;omega),⟨fun k r hk=>?_,fun k k' r1 r2 b8 q1 q2 o ho d7=>?_⟩,g2.len,fun j hj b8=>?_,fun k r hk o ho=>?_⟩
      ·simpa only [SV.ev,jq,qq1 g1] using this
      ·rcases key k r hk with⟨rfl,rfl⟩ | ⟨q1,q2,q3⟩
       ·rw [jq];exact g1
       ·rw [w9 _ _ q1]
        have h3:=hS.ok k r q3
        cases r with
        |cells T1 cs=>
         exfalso;have:=(vq q3)
         have hmy:memN ky k=true:=by
          have h5:=this.1;rw [qig,q2,Bool.false_or] at h5;exact h5
         obtain⟨z,T2,ys2,q⟩:=qvs ct k hmy;rw [this.2] at q
         simp at q
        |tip z T1 zs=>exact SR.ok_of (f:=fun _=>false) (r:=.tip z T1 zs) (ρ:= ρ) rfl (fun k hk=>by simp at hk) h3 fun o ho=>g2.same o (d9 k _ q1 q2 q3 o ho).1 (d9 k _ q1 q2 q3 o ho).2
        |own z T1 zs=>exact SR.ok_of (f:=fun _=>false) (r:=.own z T1 zs) (ρ:= ρ) rfl (fun k hk=>by simp at hk) h3 fun o ho=>g2.same o (d9 k _ q1 q2 q3 o ho).1 (d9 k _ q1 q2 q3 o ho).2
        |obj P1=>exact SR.ok_of (f:=fun _=>false) (r:=.obj P1) (ρ:= ρ) rfl (fun k hk=>by simp at hk) h3 fun o ho=>g2.same o (d9 k _ q1 q2 q3 o ho).1 (d9 k _ q1 q2 q3 o ho).2
        |rows T1 ys cs=>
         exfalso;have:=(vq q3)
         have hmy:memN ky k=true:=by
          have h5:=this.1;rw [qig,q2,Bool.false_or] at h5;exact h5
         obtain⟨z,T2,ys2,q⟩:=qvs ct k hmy;rw [this.2] at q;simp at q
      ·rcases key k r1 q1 with⟨rfl,rfl⟩ | ⟨f1,f2,f3⟩
       ·rcases key k' r2 q2 with⟨rfl,rfl⟩ | ⟨e1,e2,e3⟩
        ·exact b8 rfl
        ·rw [jq] at ho
         rw [w9 _ _ e1] at d7;exact (d9 k' r2 e1 e2 e3 o d7).1 (g4 o ho)
       ·rw [w9 _ _ f1] at ho
        rcases key k' r2 q2 with⟨rfl,rfl⟩ | ⟨e1,e2,e3⟩
        ·rw [jq] at d7
         exact (d9 k r1 f1 f2 f3 o ho).1 (g4 o d7)
        ·rw [w9 _ _ e1] at d7
         exact hS.sep k k' r1 r2 b8 f3 e3 o ho d7
      ·refine g2.same j (fun e=>?_) hj
       subst e;rcases g3 with g3|g3
       ·obtain⟨b,o6,r8⟩:=hl j (by rw [g3];rfl)
        obtain⟨r2,tn⟩:=tv b o6;exact b8 b r2 tn r8
       ·omega
      ·rcases key k r hk with⟨rfl,rfl⟩ | ⟨q1,q2,q3⟩
       ·rw [jq] at ho
        have:=g4 o ho;subst this;rcases g3 with g3|g3
        ·obtain⟨b,o6,r8⟩:=hl o (by rw [g3];rfl)
         obtain⟨r2,tn⟩:=tv b o6;exact .inr ⟨b,r2,tn,r8⟩
        ·exact .inl g3
       ·rw [w9 _ _ q1] at ho
        exact .inr ⟨k,r,q3,ho⟩
    ·exact h.elim
   ·exact h.elim
  ·exact h.elim
 ·exact h.elim
end
end Go.Av
namespace Go.Av
open Go Go.RowKit
structure zji (E:Env) (f:FuncId):Prop where
 run:∀ vs w,(callFunc f vs).run E.P w = .ok (.enter f vs) w
def ko (E:Env) (f:FuncId) (vs:List SV) (nx:Nat) (H:Nat→Option SR) (e:Ef):Prop:=
 ∀ (ρ : Nat→AV) (S:List AObj),SatF S ρ (resF e.ks H)→qo E f (SV.evs ρ vs) S fun r S'=>∃ ρ',r=e.val.ev ρ'∧qg5 ρ S nx H e ρ' S'
def nums:Nat→List (Nat×SV)→Bool
 | _,[]=>true
 |i,(j,_)::r=>Nat.beq j i && nums (i+1) r
section
variable {E : Env} {N : Nat} {ops : Array Oper} {nx : Nat} {sl : List (Nat × SV)} {H : Nat → Option SR} {k : Ef → Prop} {d : Option Tmp} {T : TypeId} {p : String} {af : Array Edge}
theorem qx3 {f:FuncId} {xs ys:List AV} {st:List AObj} {R:AV→List AObj→Prop} (hl:xs.length=ys.length) (hw:∀ (i:Nat) (x y:AV),xs[i]? = some x→ys[i]? = some y→Wk x y) (h:qo E f ys st R):qo E f xs st R:=
 ⟨fun B0 w0 G vals w hL hA hR=>h.run B0 w0 G vals w hL hA ⟨by rw [← hl];exact hR.1,fun i a b ha hb=>by
  have hi:=lt_of_getElem? ha;have hx:xs[i]? = some (xs[i]'(by omega)):=List.getElem?_eq_getElem (by omega)
  exact hw i _ a hx ha G b (hR.2 i _ b hx hb)⟩⟩
def parT (P:Program) (f:FuncId):List TypeId:=match P.funcs[f]? with
 |some fn=>fn.params.toList
 |none=>[]
def qxp (P:Program) (f:FuncId):Option (List AV)→Option (List AV)
 |some xs=>some (zipT P (parT P f) xs)
 |none=>none
theorem zfc {f:FuncId} {vs:List SV} {args:List AV} {r0:AV} (hc:∀ S,qo E f args S fun r S'=>r=r0∧S'=S) (ha:qxp E.P f (frzs (resF (SV.kss vs) H) vs)=some args):ko E f vs nx H ⟨nf r0,SV.kss vs,[],nx⟩:=fun ρ S hS=>by
 cases hf:frzs (resF (SV.kss vs) H) vs with
 |none=>rw [hf] at ha;simp [qxp] at ha
 |some xs=>
 rw [hf] at ha;simp only [qxp,Option.some.injEq] at ha;obtain⟨h1,h2⟩:=qep hS vs xs hf;obtain⟨h3,h4⟩:=q5b E.P (parT E.P f) xs;rw [ha] at h3 h4;refine qx3 (h1.trans h3) (fun i x y hx hy=>?_) ((hc S).mono ?_)
 ·have hi:i<xs.length:=by rw [← h1];exact lt_of_getElem? hx
  have hz:xs[i]? = some xs[i]:=List.getElem?_eq_getElem hi;exact fun G v hv=>h4 i _ y hz hy G v (h2 i x _ hx hz G v hv)
 rintro r S' ⟨rfl,rfl⟩;exact⟨ρ,(qln ρ _).symm,fun _ _=>rfl,⟨fun k r hk=>hS.ok k r hk,fun k k' r r' b8 h1 h2=>hS.sep k k' r r' b8 h1 h2⟩,Nat.le_refl _,fun _ _ _=>rfl,fun k r hk o ho=>.inr ⟨k,r,hk,ho⟩⟩
def fnOf:SV→Option (FuncId×List SV×List SV)
 | .fn (.func f) a b=>some (f,a,b)
 | .a (.fn (.func f) a b)=>some (f,nfs a,nfs b)
 | _=>none
theorem zfv {v:SV} {f:FuncId} {a b:List SV} (h:fnOf v=some (f,a,b)) (ρ : Nat→AV):v.ev ρ = .fn (.func f) (SV.evs ρ a) (SV.evs ρ b):=by
 unfold fnOf at h;split at h
 ·simp only [Option.some.injEq,Prod.mk.injEq] at h;obtain⟨rfl,rfl,rfl⟩:=h;rfl
 ·simp only [Option.some.injEq,Prod.mk.injEq] at h;obtain⟨rfl,rfl,rfl⟩:=h;simp only [SV.ev,qgq]
 ·simp at h
def q5t (E:Env) (N:Nat) (sl:List (Nat×SV)) (H:Nat→Option SR) (nx:Nat) (k:Ef→Prop) (x:Operand) (xs:Array Operand):Prop:=
 match sval N sl x,ql3 N sl xs.toList with
 |some v,some vs=>(match fnOf v with
  |some (f,a,b)=>zji E f∧∃ e,ko E f (a++(vs++b)) nx H e∧k e
  |none=>False)
 | _,_=>False
theorem ze7 {x:Operand} {xs:Array Operand} {ts:Array TypeId} (h:q5t E N sl H nx k x xs):∃ e,Loc E N ops ⟨d,.call ⟨.value x,xs,ts⟩,T,p,af,none⟩ nx sl H e∧k e:=by
 unfold q5t at h;split at h
 ·rename_i v vs hv hvs
  split at h
  ·rename_i f a b hf
   obtain⟨hE,e,hc,h⟩:=h;refine⟨e,fun df rd K rest ρ t S hs hS hk=>q5f ((qv hs hv).trans (zfv hf ρ)) hE.run ?_,h⟩;have:=hc ρ S hS;rw [ql4 hs hvs];have he:SV.evs ρ (a++(vs++b))=SV.evs ρ a++SV.evs ρ vs++SV.evs ρ b:=by simp [km]
   rw [he] at this;refine this.mono ?_;rintro r S' ⟨ρ',rfl,hp⟩;exact hk ρ' S' hp
  ·exact h.elim
 ·exact h.elim
def bslW (P:Program) (N:Nat) (bxs:List Nat) (d:Option Tmp) (sl:List (Nat×SV)) (H:Nat→Option SR) (nx:Nat) (k:Ef→Prop) (t:TypeId) (len:Nat) (parts:Array (Nat×Operand)):Prop:=
 match elT (P.underlying t) with
 |some e=>(match tyOf P e,qdy P e len,ql1 N sl parts.toList with
  |some (sz,_),some zs,some ps=>(match len with
   | 0=>(match ps with
    | []=>k ⟨.tp nx,[],[(nx,some (.tip sz e []))],nx+1⟩
    | _=>False)
   |len=>bif qsf bxs d then (bif ps.all (fun q=>q.2.all fun _=>false) && nums 0 ps && Nat.beq ps.length len && (SV.evs (fun _=>zy) (ps.map Prod.snd)).all (fun y=>y.okc && Nat.beq y.cells.length sz) && Nat.beq zs.length (len * sz) && Nat.ble (len * sz) 16777216 && Nat.blt 0 len && Nat.ble len 16777216 then
     k ⟨.tp nx,[],[(nx,some (.tip sz e (SV.evs (fun _=>zy) (ps.map Prod.snd))))],nx+1⟩ else False) else (match frzs (resF (SV.kss (ps.map Prod.snd)) H) (ps.map Prod.snd) with
    |some ys=>q6s P e ys fun ys=>fcN sz fun sz=>bif nums 0 ps && Nat.beq ys.length len && ys.all (fun y=>y.okc && Nat.beq y.cells.length sz) && Nat.beq zs.length (len * sz) && Nat.ble (len * sz) 16777216 then k ⟨.a (.sl sz ys none),SV.kss (ps.map Prod.snd),[],nx⟩ else False
    |none=>False))
  | _,_,_=>False)
 |none=>False
theorem q0g:∀ {ps:List (Nat×SV)} {i0:Nat} {ys:List AV},nums i0 ps=true→ps.length=ys.length→∀ (i:Nat) (q:Nat×SV) (r:Nat×AV),ps[i]? = some q→(je i0 ys)[i]? = some r→q.1=r.1∧(ps.map Prod.snd)[i]? = some q.2∧ys[i]? = some r.2
 | [],_,_,_,_,i,_,_,h,_=>by simp at h
 |(j,v)::ps,i0,[],_,hl,_,_,_,_,_=>by simp at hl
 |(j,v)::ps,i0,y::ys,h,hl,i,q,r,hq,hr=>by
  simp only [nums,Bool.and_eq_true] at h;simp only [je] at hr
  cases i with
  |zero=>
   simp only [List.getElem?_cons_zero,Option.some.injEq] at hq hr;subst hq;subst hr
   exact⟨Nat.eq_of_beq_eq_true h.1,rfl,rfl⟩
  |succ i=>
   have:=q0g h.2 (by simpa using hl) i q r (by simpa using hq) (by simpa using hr)
   simpa using this
theorem qns {α : Type}:∀ (l:List α) (i:Nat),(je i l).length=l.length
 | [],_=>rfl
 |x::r,i=>by simp [je,qns r]
theorem zad (t:Nat→AV) (i:Nat) (a b:AV):put (put t i a) i b=put t i b:=by
 funext j;by_cases h:j=i
 ·subst h;rw [wi,wi]
 ·rw [yh _ _ _ _ h,yh _ _ _ _ h,yh _ _ _ _ h]
theorem qnt:∀ (ps:List (Nat×SV)) (i:Nat),nums i ps=true→(ps.map fun q=>(q.1,q.2.ev fun _=>zy))=je i (SV.evs (fun _=>zy) (ps.map Prod.snd))
 | [],_,_=>rfl
 |(j,v)::r,i,h=>by
  simp only [nums,Bool.and_eq_true] at h;simp only [List.map_cons,SV.evs,je,qnt r (i+1) h.2];rw [Nat.eq_of_beq_eq_true h.1]
theorem zh1 {bxs:List Nat} {t:TypeId} {len:Nat} {parts:Array (Nat×Operand)} (h:bslW E.P N bxs d sl H nx k t len parts):∃ e,Loc E N ops ⟨d,.buildSlice t len parts,T,p,af,none⟩ nx sl H e∧k e:=by
 unfold bslW at h;split at h
 ·rename_i e he
  split at h
  ·rename_i sz agg zs ps ht hz hp
   split at h
   ·split at h
    ·refine⟨_,qhw (fun k r hk=>by rw [qc4] at hk;simp at hk) fun df rd K rest ρ t' S hs _ hk=>?_,h⟩
     have hpa:vi N ⟨t',S,df⟩ parts=[]:=by unfold vi;rw [qfz hs hp];rfl
     have i3:zs=[]:=by
      unfold qdy at hz;split at hz
      ·simp at hz;exact hz
      ·simp at hz
     subst i3;refine yi (loc:=[]) (st:=S) (by simp) (ww he) ht hz (by rw [hpa];rfl) (by simp) ?_;have:=hk (.os S.length 0 0 0 0) [.cells 0 e []] (.inr ⟨rfl,_,_,_,rfl⟩) (fun o ho=>by simp [zl] at ho)
     simpa [SV.ev,jq,tpAt,AV.one] using this
    ·exact h.elim
   ·rename_i b8
    cases m4:qsf bxs d with
    |true=>
     rw [m4] at h;simp only [cond_true] at h
     cases hc:(ps.all (fun q=>q.2.all fun _=>false) && nums 0 ps && Nat.beq ps.length len && (SV.evs (fun _=>zy) (ps.map Prod.snd)).all (fun y=>y.okc && Nat.beq y.cells.length sz) && Nat.beq zs.length (len * sz) && Nat.ble (len * sz) 16777216 && Nat.blt 0 len && Nat.ble len 16777216) with
     |false=>rw [hc] at h;exact h.elim
     |true=>
      rw [hc] at h;simp only [Bool.and_eq_true] at hc;obtain⟨⟨⟨⟨⟨⟨⟨c0,c1⟩,c2⟩,c3⟩,c4⟩,c5⟩,c6⟩,c7⟩:=hc;have c2:=Nat.eq_of_beq_eq_true c2;have c4:=Nat.eq_of_beq_eq_true c4;have hyl:(SV.evs (fun _=>zy) (ps.map Prod.snd)).length=len:=by rw [km];simpa using c2
      have c3:∀ y∈SV.evs (fun _=>zy) (ps.map Prod.snd),y.okc=true∧y.cells.length=sz:=fun y hy=>by
       have:=List.all_eq_true.1 c3 y hy;simp only [Bool.and_eq_true] at this;exact⟨this.1,Nat.eq_of_beq_eq_true this.2⟩
      refine⟨_,qhw (fun k r hk=>by rw [qc4] at hk;simp at hk) fun df rd K rest ρ t' S hs _ hk=>?_,h⟩
      have fb:(ps.map fun q=>(q.1,q.2.ev ρ))=je 0 (SV.evs (fun _=>zy) (ps.map Prod.snd)):=by
       rw [← qnt ps 0 c1];refine List.map_congr_left fun q hq=>?_;rw [qbi (f:=fun _=>false) (ρ:=fun _=>zy) (ρ':= ρ) (fun k hk=>by simp at hk) q.2 (List.all_eq_true.1 c0 q hq)]
      have hpa:vi N ⟨t',S,df⟩ parts=je 0 (SV.evs (fun _=>zy) (ps.map Prod.snd)):=by rw [← fb];unfold vi;exact qfz hs hp
      have dr:=qk9 (sz:=sz) _ 0 [] zs c3 (by simp) (by rw [c4,hyl]);have i3:(flat (SV.evs (fun _=>zy) (ps.map Prod.snd))).length=len * sz:=by rw [zo fun x hx=>(c3 x hx).2,hyl]
      refine yi (loc:=[]) (st:=S) (by simp) (ww he) ht hz (by rw [hpa];simpa using dr) c5 ?_
      cases d with
      |none=>simp [qsf] at m4
      |some x=>
       refine q5i x (o:=S.length) (sz:=sz) (len:=len) (cap:=len) (T':=e) (xs:=SV.evs (fun _=>zy) (ps.map Prod.snd)) (by simp [AS.put,wi]) (by simp [AS.put]) i3 hyl (kz c6) (Nat.le_refl _) (by have:=Nat.le_of_ble_eq_true c7;simp only [maxLen];omega) (fun x hx=>(c3 x hx).2) (by rw [← i3,List.take_length]) ?_;have:=hk (.sl sz (SV.evs (fun _=>zy) (ps.map Prod.snd)) (some S.length)) [.tip len sz e] (.inl (.inr ⟨S.length,rfl,by rw [hyl];exact wh,Nat.zero_le _⟩)) (fun o ho=>by simp only [zl,Option.some.injEq] at ho;omega);simp only [SV.ev,jq,tpAt,AV.one,cond_true,AS.put] at this
       simpa [AS.put,zad] using this
    |false=>
    rw [m4] at h;simp only [cond_false] at h;split at h
    ·rename_i ys0 pj
     obtain⟨ys,hyn,h⟩:=q0c h;rw [qm7] at h
     cases hc:(nums 0 ps && Nat.beq ys.length len && ys.all (fun y=>y.okc && Nat.beq y.cells.length sz) && Nat.beq zs.length (len * sz) && Nat.ble (len * sz) 16777216) with
     |false=>rw [hc] at h;exact h.elim
     |true=>
      rw [hc] at h;simp only [Bool.and_eq_true] at hc;obtain⟨⟨⟨⟨c1,c2⟩,c3⟩,c4⟩,c5⟩:=hc;have c2:=Nat.eq_of_beq_eq_true c2;have c4:=Nat.eq_of_beq_eq_true c4
      have c3:∀ y∈ys,y.okc=true∧y.cells.length=sz:=fun y hy=>by
       have:=List.all_eq_true.1 c3 y hy;simp only [Bool.and_eq_true] at this;exact⟨this.1,Nat.eq_of_beq_eq_true this.2⟩
      refine⟨_,xp (v:=.a (.sl sz ys none)) fun df rd K rest ρ t' S hs hS hk=>?_,h⟩;obtain⟨w1,w2⟩:=qep hS _ _ pj;have hlp:ps.length=ys.length:=by rw [← hyn.1,← w1];simp [km]
      have hpa:vi N ⟨t',S,df⟩ parts=ps.map fun q=>(q.1,q.2.ev ρ):=by unfold vi;exact qfz hs hp
      have dr:=qk9 (sz:=sz) ys 0 [] zs c3 (by simp) (by rw [c4,c2]);refine qpv (je 0 ys) (by rw [hpa,qns];simpa using hlp) (fun i q r hq hr=>?_) (ww he) ht hz (by simpa using dr) c2 (by simp) (fun x hx=>(c3 x hx).2) c5 hk;rw [hpa,List.getElem?_map] at hq
      cases hpi:ps[i]? with
      |none=>rw [hpi] at hq;simp at hq
      |some q'=>
       rw [hpi] at hq;simp only [Option.map_some,Option.some.injEq] at hq;subst hq;obtain⟨g1,g2,g3⟩:=q0g c1 hlp i q' r hpi hr;have hi:i<ys0.length:=by rw [hyn.1];exact lt_of_getElem? g3
       have ld:ys0[i]? = some ys0[i]:=List.getElem?_eq_getElem hi;exact⟨g1,fun G v hv=>hyn.2 i _ _ ld g3 G v (w2 i _ _ (by rw [km,List.getElem?_map,g2];rfl) ld G v hv)⟩
    ·exact h.elim
  ·exact h.elim
 ·exact h.elim
def mmW (nx:Nat) (k:Ef→Prop) (f:Int→Int→Int):Option SV→Option SV→Prop
 |some a,some b=>(match qan a,qan b with
  |some (.i64,m),some (.i64,n)=>k (vu nx (.i (f m n)))
  | _,_=>False)
 | _,_=>False
theorem ziu {ts:Array TypeId} {x y:Operand} (h:mmW nx k min (sval N sl x) (sval N sl y)):∃ e,Loc E N ops ⟨d,.call ⟨.builtin .min,#[x,y],ts⟩,T,p,af,none⟩ nx sl H e∧k e:=by
 unfold mmW at h;split at h
 ·rename_i a b ha hb
  split at h
  ·rename_i m n hm hn
   exact⟨_,z8 (v:=.i (min m n)) fun df rd K rest ρ t' S hs hk=>z0 (.int .i64 (min m n)) rfl nofun (fun a w he=>by
    have e1:=he _ _ ((qv hs ha).trans (xo hm ρ));have e2:=he _ _ ((qv hs hb).trans (xo hn ρ));have e:min m n=if n<m then n else m:=by simp only [Int.min_def];split <;> split <;> omega
    simp [execOp,resolve,invoke,builtin,Builtin.min_,Builtin.min2,e1,e2,e]) hk,h⟩
  ·exact h.elim
 ·exact h.elim
theorem zit {ts:Array TypeId} {x y:Operand} (h:mmW nx k max (sval N sl x) (sval N sl y)):∃ e,Loc E N ops ⟨d,.call ⟨.builtin .max,#[x,y],ts⟩,T,p,af,none⟩ nx sl H e∧k e:=by
 unfold mmW at h;split at h
 ·rename_i a b ha hb
  split at h
  ·rename_i m n hm hn
   exact⟨_,z8 (v:=.i (max m n)) fun df rd K rest ρ t' S hs hk=>z0 (.int .i64 (max m n)) rfl nofun (fun a w he=>by
    have e1:=he _ _ ((qv hs ha).trans (xo hm ρ));have e2:=he _ _ ((qv hs hb).trans (xo hn ρ));have e:max m n=if n > m then n else m:=by simp only [Int.max_def];split <;> split <;> omega
    simp [execOp,resolve,invoke,builtin,Builtin.max_,Builtin.max2,e1,e2,e]) hk,h⟩
  ·exact h.elim
 ·exact h.elim
def qxu (H:Nat→Option SR):Option SV→Bool
 |some (.tp b)=>(match H b with
  |some (.own _ _ _)=>true
  |some (.obj _)=>true
  |some (.rows _ _ _)=>true
  | _=>false)
 |some (.bx b _)=>(match H b with
  |some (.own _ _ _)=>true
  |some (.obj _)=>true
  |some (.rows _ _ _)=>true
  | _=>false)
 | _=>false
def zjr (H:Nat→Option SR):Option SV→Bool
 |some (.tp b)=>(match H b with
  |some (.obj _)=>true
  | _=>false)
 | _=>false
def orW (c:Bool) (x y:Prop):Prop:=
 match c with
 |true=>x
 |false=>y
theorem qik {c:Bool} {x y:Prop} (h:orW c x y) (hy:y→x):x:=by
 cases c with
 |true=>exact h
 |false=>exact hy h
def oddT (u:Option TypeDesc) (y:Operand):Bool:=
 match u with
 |some (.struct _)=>true
 |some (.array _ _)=>true
 |some (.interface _)=>(match y with
  | .const .nilIface=>false
  | _=>true)
 | _=>false
def oddB (P:Program) (op:BinOp) (t:TypeId) (y:Operand):Bool:=
 match op with
 | .and=>true
 | .or=>true
 | .xor=>true
 | .shl=>true
 | .shr=>true
 | .andNot=>true
 | .eql=>oddT (P.underlying t) y
 | .neq=>oddT (P.underlying t) y
 | _=>false
def slT:Option TypeDesc→Bool
 |some (.slice _)=>true
 | _=>false
def opW (E:Env) (N:Nat) (ops:Array Oper) (bxs:List Nat) (nx:Nat) (sl:List (Nat×SV)) (H:Nat→Option SR) (k:Ef→Prop) (o:Oper):Prop:=
 match o.op with
 | .move x=>mvW nx k (sval N sl x)
 | .assign x=>mvW nx k (sval N sl x)
 | .pick c x y=>q61 N sl nx k c x y
 | .alloc t=>qya E.P nx k t
 | .box t x=>boxW bxs H nx k o.dst t (sval N sl x)
 | .build t ps=>qyx E.P N sl nx k t ps
 | .buildSlice t len ps=>bslW E.P N bxs o.dst sl H nx k t len ps
 | .load t x=>orW (qxu H (sval N sl x)) (∃ e,Loc E N ops o nx sl H e∧k e) (q6m E.P H nx k t (sval N sl x))
 | .store t x y=>orW (qxu H (sval N sl x)) (∃ e,Loc E N ops o nx sl H e∧k e) (q1q E.P H nx k t (sval N sl x) (sval N sl y))
 | .nilCheck x=>qz8 nx k (sval N sl x)
 | .binOp op t x y _=>orW (oddB E.P op t y) (∃ e,Loc E N ops o nx sl H e∧k e) (match sval N sl x,sval N sl y with
  |some vx,some vy=>binW E.P op t y (fun v=>k (vu nx v)) vx vy
  | _,_=>False)
 | .unOp .not _ x=>notW nx k (sval N sl x)
 | .convert t t' x=>orW (slT (E.P.underlying t) ||slT (E.P.underlying t')) (∃ e,Loc E N ops o nx sl H e∧k e) (q5y E.P t t' nx k (sval N sl x))
 | .makeInterface t x=>qz4 E.P t nx k (sval N sl x)
 | .makeFunc fn xs ys=>q6o N sl fn xs ys nx k
 | .slice t x lo hi none=>q1n E.P N sl H nx k t x lo hi
 | .fieldAddr t x f=>qk8 E.P t f nx k (sval N sl x)
 | .field t x f=>qzh E.P t f nx k (sval N sl x)
 | .indexAddr t x y=>orW (qxu H (sval N sl x)) (∃ e,Loc E N ops o nx sl H e∧k e) (qlh E.P N sl H nx k t x y)
 | .index t x y=>qzv E.P N sl nx k t x y
 | .extract x i=>qp5 i nx k (sval N sl x)
 | .call c=>(match c.callee,c.args,c.argTypes with
  | .value x,xs,_=>q5t E N sl H nx k x xs
  | .builtin .len,⟨[x]⟩,⟨t::_⟩=>orW (zjr H (sval N sl x)) (∃ e,Loc E N ops o nx sl H e∧k e) (lenW E.P H nx k t (sval N sl x))
  | .builtin .append,⟨[x,y]⟩,⟨[t,u]⟩=>orW (qxu H (sval N sl x)) (∃ e,Loc E N ops o nx sl H e∧k e) (appW E.P H nx k t u (sval N sl x) (sval N sl y))
  | .builtin .min,⟨[x,y]⟩,_=>mmW nx k min (sval N sl x) (sval N sl y)
  | .builtin .max,⟨[x,y]⟩,_=>mmW nx k max (sval N sl x) (sval N sl y)
  | _,_,_=>∃ e,Loc E N ops o nx sl H e∧k e)
 | _=>∃ e,Loc E N ops o nx sl H e∧k e
theorem q9x {bxs:List Nat} {o:Oper} (hg:o.guard=none) (h:opW E N ops bxs nx sl H k o):∃ e,Loc E N ops o nx sl H e∧k e:=by
 obtain⟨d,op,T,p,af,g⟩:=o;subst hg;unfold opW at h;split at h
 ·rename_i he;simp only at he;subst he;exact zgl h
 ·rename_i he;simp only at he;subst he;exact q76 h
 ·rename_i he;simp only at he;subst he;exact zgw h
 ·rename_i he;simp only at he;subst he;exact zbl h
 ·rename_i he;simp only at he;subst he;exact zh0 h
 ·rename_i he;simp only at he;subst he;exact zbw h
 ·rename_i he;simp only at he;subst he;exact zh1 h
 ·rename_i he;simp only at he;subst he;exact qik h zgf
 ·rename_i he;simp only at he;subst he;exact qik h zd3
 ·rename_i he;simp only at he;subst he;exact zc3 h
 ·rename_i he
  simp only at he;subst he;refine qik h fun h=>?_;split at h
  ·rename_i hx hy
   obtain⟨v,hv,hk⟩:=zhz hx hy h;exact⟨_,z8 hv,hk⟩
  ·exact h.elim
 ·rename_i he;simp only at he;subst he;exact ziw h
 ·rename_i he;simp only at he;subst he;exact qik h zfa
 ·rename_i he;simp only at he;subst he;exact zc2 h
 ·rename_i he;simp only at he;subst he;exact zgk h
 ·rename_i he;simp only at he;subst he;exact zd0 h
 ·rename_i he;simp only at he;subst he;exact qzg h
 ·rename_i he;simp only at he;subst he;exact zcf h
 ·rename_i he;simp only at he;subst he;exact qik h qzu
 ·rename_i he;simp only at he;subst he;exact zcr h
 ·rename_i he;simp only at he;subst he;exact q6f h
 ·rename_i c he
  simp only at he;subst he;obtain⟨cl,xs,ts⟩:=c;split at h
  ·rename_i e1;simp only at e1;subst e1;exact ze7 h
  ·rename_i e1 e2 e3;simp only at e1 e2 e3;subst e1;subst e2;subst e3;exact qik h (ziq rfl)
  ·rename_i e1 e2 e3;simp only at e1 e2 e3;subst e1;subst e2;subst e3;exact qik h zhv
  ·rename_i e1 e2;simp only at e1 e2;subst e1;subst e2;exact ziu h
  ·rename_i e1 e2;simp only at e1 e2;subst e1;subst e2;exact zit h
  ·exact h
 ·exact h
end
end Go.Av
namespace Go.Av
open Go Go.RowKit
def isGd (i:Nat) (l:List Oper):Bool:=l.any fun o=>match o.guard with
 |some (j,_)=>Nat.beq j i
 |none=>false
def Ef.as (e:Ef) (v:SV):Ef:=⟨v,e.ks,e.ch,e.nx⟩
def gdW (g:Bool) (k:Ef→Prop) (e:Ef):Prop:=
 match g with
 |false=>k e
 |true=>match e.val with
  | .p q _=>(q→k (e.as .tt))∧(¬ q→k (e.as .ff))
  | .b c=>(c=true→k (e.as .tt))∧(c=false→k (e.as .ff))
  | _=>k e
section
variable {E : Env} {N : Nat} {ops : Array Oper} {nx : Nat} {sl : List (Nat × SV)} {H : Nat → Option SR} {k : Ef → Prop} {o : Oper}
theorem qog {e:Ef} {v:SV} (h:Loc E N ops o nx sl H e) (hv:∀ ρ,e.val.ev ρ = v.ev ρ):Loc E N ops o nx sl H (e.as v):=fun df rd K rest ρ t S hs hS hk=>
 h df rd K rest ρ t S hs hS fun ρ' S' hp=>by rw [hv ρ'];exact hk ρ' S' ⟨hp.old,hp.sat,hp.len,hp.fr,hp.loc⟩
theorem qzq {g:Bool} {e:Ef} (hL:Loc E N ops o nx sl H e) (h:gdW g k e):∃ e,Loc E N ops o nx sl H e∧k e:=by
 unfold gdW at h;split at h
 ·exact⟨e,hL,h⟩
 ·split at h
  ·rename_i q i hv
   by_cases hq:q
   ·exact⟨_,qog hL (fun ρ=>by rw [hv];simp [SV.ev,hq]),h.1 hq⟩
   ·exact⟨_,qog hL (fun ρ=>by rw [hv];simp [SV.ev,hq]),h.2 hq⟩
  ·rename_i c hv
   cases c with
   |true=>exact⟨_,qog hL (fun ρ=>by rw [hv];rfl),h.1 rfl⟩
   |false=>exact⟨_,qog hL (fun ρ=>by rw [hv];rfl),h.2 rfl⟩
  ·exact⟨e,hL,h⟩
def Oper.bare (o:Oper):Oper:=⟨o.dst,o.op,o.type,o.pos,o.after,none⟩
def qxr (l:List Oper) (j:Nat):Option Nat:=match l[j]? with
 |some o=>o.dst
 |none=>none
def opG (E:Env) (N:Nat) (l:List Oper) (bxs:List Nat) (nx:Nat) (sl:List (Nat×SV)) (H:Nat→Option SR) (k:Ef→Prop) (o:Oper):Prop:=
 match o.guard with
 |none=>opW E N l.toArray bxs nx sl H k o
 |some (j,want)=>(match qxr l j with
  |some e=>(match bif Nat.blt e N then lkS sl e else none with
   |some .tt=>bif want then opW E N l.toArray bxs nx sl H k (Oper.bare o) else k (vu nx (.a (.v undef)))
   |some .ff=>bif want then k (vu nx (.a (.v undef))) else opW E N l.toArray bxs nx sl H k (Oper.bare o)
   |some (.a (.v (.tuple ⟨[]⟩)))=>k (vu nx (.a (.v undef)))
   | _=>False)
  |none=>False)
theorem zb9 {l:List Oper} {j e:Nat} (h:qxr l j=some e):∃ oj,l.toArray[j]? = some oj∧oj.dst=some e:=by
 unfold qxr at h;split at h
 ·rename_i o ho;exact⟨o,by simpa using ho,h⟩
 ·simp at h
theorem q0k {l:List Oper} {bxs:List Nat} (h:opG E N l bxs nx sl H k o):∃ e,Loc E N l.toArray o nx sl H e∧k e:=by
 obtain⟨d,op,T,p,af,g⟩:=o;unfold opG at h;simp only at h;split at h
 ·exact q9x rfl h
 ·rename_i j want
  split at h
  ·rename_i e he
   obtain⟨oj,hj,hd⟩:=zb9 he
   cases hN:Nat.blt e N with
   |false=>rw [hN] at h;exact h.elim
   |true=>
    rw [hN] at h;simp only [cond_true] at h
    have run:∀ b:Bool,lkS sl e=some (bif b then .tt else .ff)→b=want→opW E N l.toArray bxs nx sl H k ⟨d,op,T,p,af,none⟩→∃ e,Loc E N l.toArray ⟨d,op,T,p,af,some (j,want)⟩ nx sl H e∧k e:=fun b hl hb h=>by
     obtain⟨e1,hL,hk⟩:=q9x rfl h;refine⟨e1,fun df rd K rest ρ t S hs hS hk=>qke hj hd hN (b:=b) ?_ hb (hL df rd K rest ρ t S hs hS hk),hk⟩;refine (hs e _ hl).trans ?_
     cases b <;> rfl
    have skp:∀ b:Bool,lkS sl e=some (bif b then .tt else .ff)→(b == want)=false→k (vu nx (.a (.v undef)))→∃ e,Loc E N l.toArray ⟨d,op,T,p,af,some (j,want)⟩ nx sl H e∧k e:=fun b hl hb h=>by
     refine⟨_,z8 (v:=.a (.v undef)) fun df rd K rest ρ t S hs hk=>qis hj hd hN (b:=b) ?_ hb hk,h⟩;refine (hs e _ hl).trans ?_
     cases b <;> rfl
    split at h
    ·rename_i hl
     cases want with
     |true=>exact run true hl rfl h
     |false=>exact skp true hl rfl h
    ·rename_i hl
     cases want with
     |true=>exact skp false hl rfl h
     |false=>exact run false hl rfl h
    ·rename_i hl
     exact⟨_,z8 (v:=.a (.v undef)) fun df rd K rest ρ t S hs hk=>qh2 hj hd hN (hs e _ hl) hk,h⟩
    ·exact h.elim
  ·exact h.elim
end
mutual
def fcV:SV→(SV→Prop)→Prop
 | .a x,k=>k (.a x)
 | .i n,k=>k (.i n)
 | .s l,k=>k (.s l)
 | .tt,k=>k .tt
 | .ff,k=>k .ff
 | .b c,k=>k (.b c)
 | .p q h,k=>k (.p q h)
 | .bx a b,k=>k (.bx a b)
 | .tp a,k=>k (.tp a)
 | .ag cs,k=>fcL cs fun cs=>k (.ag cs)
 | .tu cs,k=>fcL cs fun cs=>k (.tu cs)
 | .fn f xs ys,k=>fcL xs fun xs=>fcL ys fun ys=>k (.fn f xs ys)
 | .ifc t x,k=>fcV x fun x=>k (.ifc t x)
def fcL:List SV→(List SV→Prop)→Prop
 | [],k=>k []
 |x::r,k=>fcV x fun x=>fcL r fun r=>k (x::r)
end
mutual
theorem qzf:∀ (v:SV) (k:SV→Prop),fcV v k=k v
 | .a _,_=>rfl
 | .i _,_=>rfl
 | .s _,_=>rfl
 | .tt,_=>rfl
 | .ff,_=>rfl
 | .b _,_=>rfl
 | .p _ _,_=>rfl
 | .bx _ _,_=>rfl
 | .tp _,_=>rfl
 | .ag cs,k=>by simp only [fcV,qh7 cs]
 | .tu cs,k=>by simp only [fcV,qh7 cs]
 | .fn f xs ys,k=>by simp only [fcV,qh7 xs,qh7 ys]
 | .ifc t x,k=>by simp only [fcV,qzf x]
theorem qh7:∀ (l:List SV) (k:List SV→Prop),fcL l k=k l
 | [],_=>rfl
 |x::r,k=>by simp only [fcL,qzf x,qh7 r]
end
def fcR:SR→(SR→Prop)→Prop
 | .cells T cs,k=>fcL cs fun cs=>k (.cells T cs)
 | .tip sz T xs,k=>fcN sz fun sz=>k (.tip sz T xs)
 | .own sz T xs,k=>fcN sz fun sz=>k (.own sz T xs)
 | .obj P,k=>k (.obj P)
 | .rows T ys cs,k=>fcL cs fun cs=>k (.rows T ys cs)
theorem zie:∀ (r:SR) (k:SR→Prop),fcR r k=k r
 | .cells _ cs,k=>by simp only [fcR,qh7]
 | .tip sz _ _,k=>by simp only [fcR,qm7]
 | .own sz _ _,k=>by simp only [fcR,qm7]
 | .obj _,k=>rfl
 | .rows _ _ cs,k=>by simp only [fcR,qh7]
def fcH:List (Nat×Option SR)→(List (Nat×Option SR)→Prop)→Prop
 | [],k=>k []
 |(a,none)::l,k=>fcH l fun l=>k ((a,none)::l)
 |(a,some r)::l,k=>fcR r fun r=>fcH l fun l=>k ((a,some r)::l)
theorem qzd:∀ (l:List (Nat×Option SR)) (k:List (Nat×Option SR)→Prop),fcH l k=k l
 | [],_=>rfl
 |(a,none)::l,k=>by simp only [fcH,qzd l]
 |(a,some r)::l,k=>by simp only [fcH,zie,qzd l]
def fcE (k:Ef→Prop):Ef→Prop
 | ⟨v,ks,ch,nx⟩=>fcV v fun v=>fcH ch fun ch=>k ⟨v,ks,ch,nx⟩
theorem qzc (k:Ef→Prop) (e:Ef):fcE k e=k e:=by
 obtain⟨v,ks,ch,nx⟩:=e;simp only [fcE,qzf,qzd]
def qs2 (hp:List (Nat×Option SR)) (k:List (Nat×Option SR)→Prop):List (Nat×Option SR)→Prop
 | []=>k hp
 |c::r=>qs2 hp (fun l=>k (c::l)) r
theorem qqq (hp:List (Nat×Option SR)):∀ (ch:List (Nat×Option SR)) (k:List (Nat×Option SR)→Prop),qs2 hp k ch=k (ch++hp)
 | [],_=>rfl
 |c::r,k=>by rw [qs2,qqq hp r];rfl
def qsq (sl:List (Nat×SV)) (hp:List (Nat×Option SR)) (nx:Nat) (d:Option Tmp) (k:Conf→Prop):Ef→Prop
 | ⟨v,ks,ch,nx'⟩=>bif Ef.wf ⟨v,ks,ch,nx'⟩ nx then (match d with
  |some d=>qs2 hp (fun hp=>k ⟨(d,v)::sl,hp,nx'⟩) ch
  |none=>qs2 hp (fun hp=>k ⟨sl,hp,nx'⟩) ch) else False
theorem qql {sl:List (Nat×SV)} {hp:List (Nat×Option SR)} {nx:Nat} {d:Option Tmp} {k:Conf→Prop} {e:Ef} (h:qsq sl hp nx d k e):e.wf nx=true∧k ((Conf.mk sl hp nx).app d e):=by
 obtain⟨v,ks,ch,nx'⟩:=e;simp only [qsq] at h
 cases hw:Ef.wf ⟨v,ks,ch,nx'⟩ nx with
 |false=>rw [hw] at h;exact h.elim
 |true=>
  rw [hw] at h;refine⟨rfl,?_⟩
  cases d with
  |none=>simp only [cond_true] at h;rw [qqq] at h;exact h
  |some d=>simp only [cond_true] at h;rw [qqq] at h;exact h
def q7o (E:Env) (N:Nat) (l:List Oper) (bxs:List Nat):Nat→List Oper→(Conf→Prop)→Conf→Prop
 | _,[],K,C=>K C
 |i,o::r,K,⟨sl,hp,nx⟩=>opG E N l bxs nx sl (hpF hp) (gdW (isGd i l) (fcE (qsq sl hp nx o.dst (q7o E N l bxs (i+1) r K)))) o
theorem q12 {E:Env} {rd:Option Nat} {N:Nat} {l:List Oper} {bxs:List Nat} {B:Bs} {K:Conf→Prop}:∀ {r:List Oper} {i:Nat} {C:Conf} {s:AS},q7o E N l bxs i r K C→SatC B C s→AOps E rd N l.toArray r (fun s'=>∃ C',K C'∧SatC B C' s') s
 | [],_,C,s,h,hs=>qh ⟨C,h,hs⟩
 |o::r,i,⟨sl,hp,nx⟩,s,h,hs=>by
  obtain⟨e,hL,h⟩:=q0k h;obtain⟨e,hL,h⟩:=qzq hL h;rw [qzc] at h;obtain⟨hw,h⟩:=qql h;obtain⟨t,S,df⟩:=s;obtain⟨ρ,g7,hR⟩:=hs;simp only at g7 hR;refine hL _ rd _ r ρ t S hR.sl (hR.hp.res _) fun ρ' S' hp=>q12 h ⟨ρ',?_,?_⟩
  ·have:=g7.step (d:=o.dst) hR.hp hw hp
   cases hd:o.dst with
   |none=>rw [hd] at this;exact this
   |some d=>rw [hd] at this;exact this
  ·have:=hR.step (d:=o.dst) hw hp
   cases hd:o.dst with
   |none=>rw [hd] at this;exact this
   |some d=>rw [hd] at this;exact this
structure Sm (E:Env) (rd:Option Nat) (N:Nat) (B:Bs) (c:Code) (Q:Exit→Conf→Prop) (C:Conf):Prop where
 run:∀ s,SatC B C s→AWp E rd N c (fun e s'=>∃ C',Q e C'∧SatC B C' s') s
@[reducible] def zeq (K : Conf → Prop) (Q : Exit → Conf → Prop) : Exit → Conf → Prop
 | .normal,C=>K C
 |e,C=>Q e C
@[reducible] def qqe (id : Nat) (Q : Exit → Conf → Prop) : Exit → Conf → Prop
 | .exit id',C=>bif Nat.beq id' id then Q .normal C else Q (.exit id') C
 |e,C=>Q e C
section
variable {E : Env} {rd : Option Nat} {N : Nat} {B : Bs} {C : Conf} {Q : Exit → Conf → Prop}
theorem zg6 {x y:Code} (h:Sm E rd N B x (zeq (Sm E rd N B y Q) Q) C):Sm E rd N B (.seq x y) Q C:=⟨fun s hs=>
 qm ((h.run s hs).mono fun e s' ⟨C',hq,bz⟩=>by
  cases e with
  |normal=>exact hq.run s' bz
  | _=>exact⟨C',hq,bz⟩)⟩
theorem zao {id:Nat} {c:Code} (h:Sm E rd N B c (qqe id Q) C):Sm E rd N B (.block id c) Q C:=⟨fun s hs=>
 qu ((h.run s hs).mono fun e s' ⟨C',hq,bz⟩=>by
  cases e with
  |exit id'=>
   simp only [qqe] at hq;simp only [qqd]
   cases hb:Nat.beq id' id with
   |true=>rw [hb] at hq;exact⟨C',hq,bz⟩
   |false=>rw [hb] at hq;exact⟨C',hq,bz⟩
  | _=>exact⟨C',hq,bz⟩)⟩
theorem zdw {c:Operand} {x y:Code} {v:SV} (hv:sval N C.sl c=some v) (h:wayW (Sm E rd N B x Q C) (Sm E rd N B y Q C) v):Sm E rd N B (.cond c x y) Q C:=⟨fun s hs=>by
 obtain⟨b,hb,h⟩:=zbb h;obtain⟨t,S,df⟩:=s;have ⟨ρ,g7,hR⟩:=hs;have he:=(qv (S:=S) (df:=df) hR.sl hv).trans (hb ρ);rcases h with⟨hc,h⟩ | ⟨hc,h⟩
 ·exact q5n he hc (h.run _ hs)
 ·exact q5m he hc (h.run _ hs)⟩
theorem q1l {c:Code} {Q':Exit→Conf→Prop} (h:Sm E rd N B c Q' C) (hq:∀ e C',Q' e C'→Q e C'):Sm E rd N B c Q C:=⟨fun s hs=>
 (h.run s hs).mono fun e s' ⟨C',hq',bz⟩=>⟨C',hq e C' hq',bz⟩⟩
end
def wpC (E:Env) (rd:Option Nat) (N:Nat) (B:Bs) (bxs:List Nat):Code→(Exit→Conf→Prop)→Conf→Prop
 | .skip,Q,C=>Q .normal C
 | .region id ops false,Q,C=>q7o E N ops.toList bxs 0 ops.toList (Q .normal) C
 | .seq x y,Q,C=>wpC E rd N B bxs x (zeq (wpC E rd N B bxs y Q) Q) C
 | .cond c x y,Q,C=>(match sval N C.sl c with
  |some v=>wayW (wpC E rd N B bxs x Q C) (wpC E rd N B bxs y Q C) v
  |none=>False)
 | .block id c,Q,C=>wpC E rd N B bxs c (qqe id Q) C
 | .exit id,Q,C=>Q (.exit id) C
 | .ret,Q,C=>Q .ret C
 |c,Q,C=>Sm E rd N B c Q C
theorem zba {x y x' y':Prop} {v:SV} (hx:x→x') (hy:y→y') (h:wayW x y v):wayW x' y' v:=by
 cases v with
 |tt=>exact hx h
 |ff=>exact hy h
 |p q i=>exact⟨fun hq=>hx (h.1 hq),fun hq=>hy (h.2 hq)⟩
 |b c=>exact⟨fun hq=>hx (h.1 hq),fun hq=>hy (h.2 hq)⟩
 | _=>exact h.elim
theorem qf {E:Env} {rd:Option Nat} {N:Nat} {B:Bs} (bxs:List Nat):∀ {c:Code} {Q:Exit→Conf→Prop} {C:Conf},wpC E rd N B bxs c Q C→Sm E rd N B c Q C
 | .skip,Q,C,h=>⟨fun s hs=>qw ⟨C,h,hs⟩⟩
 | .exit id,Q,C,h=>⟨fun s hs=>jg ⟨C,h,hs⟩⟩
 | .ret,Q,C,h=>⟨fun s hs=>q6 ⟨C,h,hs⟩⟩
 | .seq x y,Q,C,h=>zg6 (q1l (qf bxs (c:=x) h) fun e C' hq=>by
   cases e with
   |normal=>exact qf bxs (c:=y) hq
   | _=>exact hq)
 | .block id c,Q,C,h=>zao (qf bxs (c:=c) h)
 | .cond c x y,Q,C,h=>by
  simp only [wpC] at h;split at h
  ·rename_i v hv
   exact zdw hv (zba (fun h=>qf bxs (c:=x) h) (fun h=>qf bxs (c:=y) h) h)
  ·exact h.elim
 | .region id ops false,Q,C,h=>⟨fun s hs=>by
  have e:ops=ops.toList.toArray:=by simp
  rw [e]
  exact qg (q12 h hs)⟩
 | .region id ops true,Q,C,h=>h
 | .loop c,Q,C,h=>h
 | .rangeFunc _ _ _ _,Q,C,h=>h
 | .scope _,Q,C,h=>h
 | .label _,Q,C,h=>h
 | .goto _,Q,C,h=>h
 | .refuse _,Q,C,h=>h
mutual
def SV.ren (σ : List (Nat×Nat)):SV→SV
 | .bx k off=>match lkS σ k with
  |some j=>.bx j off
  |none=>.a (.bx 0 0 off)
 | .tp k=>match lkS σ k with
  |some j=>.tp j
  |none=>.a zy
 | .ag cs=>.ag (SV.rens σ cs)
 | .tu cs=>.tu (SV.rens σ cs)
 | .fn f xs ys=>.fn f (SV.rens σ xs) (SV.rens σ ys)
 | .ifc t x=>.ifc t (SV.ren σ x)
 |v=>v
def SV.rens (σ : List (Nat×Nat)):List SV→List SV
 | []=>[]
 |x::r=>SV.ren σ x::SV.rens σ r
end
def renR (σ : List (Nat×Nat)) (ρ : Nat→AV):Nat→AV:=fun k=>match lkS σ k with
 |some j=> ρ j
 |none=>zy
mutual
theorem qs9 (σ : List (Nat×Nat)) (ρ : Nat→AV):∀ v:SV,(v.ren σ).ev ρ = v.ev (renR σ ρ)
 | .a _=>rfl
 | .i _=>rfl
 | .s _=>rfl
 | .tt=>rfl
 | .ff=>rfl
 | .b _=>rfl
 | .p _ _=>rfl
 | .bx k off=>by
  simp only [SV.ren,SV.ev,renR]
  cases lkS σ k <;> rfl
 | .tp k=>by
  simp only [SV.ren,SV.ev,renR]
  cases lkS σ k <;> rfl
 | .ag cs=>by simp only [SV.ren,SV.ev,qdl σ ρ cs]
 | .tu cs=>by simp only [SV.ren,SV.ev,qdl σ ρ cs]
 | .fn f xs ys=>by simp only [SV.ren,SV.ev,qdl σ ρ xs,qdl σ ρ ys]
 | .ifc t x=>by simp only [SV.ren,SV.ev,qs9 σ ρ x]
theorem qdl (σ : List (Nat×Nat)) (ρ : Nat→AV):∀ l:List SV,SV.evs ρ (SV.rens σ l)=SV.evs (renR σ ρ) l
 | []=>rfl
 |x::r=>by simp only [SV.rens,SV.evs,qs9 σ ρ x,qdl σ ρ r]
end
structure Tl (x r:AV):Prop where
 ok:Wk x r
theorem zhn (x:AV):Tl x x:=⟨wa x⟩
theorem qk {x y:AV} (h:x=y):Tl x y:=⟨zj1 h⟩
theorem zjd {sz:Nat}:Tl zy (.sl sz [] none):=⟨fun _ _ h=>qbb h⟩
def evK (v:SV) (k:AV→Prop):Prop:=
 match v with
 | .a x=>k x
 | .i n=>k (Iv n)
 | .s l=>k (Sv l)
 | .b c=>k (Bv c)
 | .p q h=>k (Bv (@decide q h))
 |v=>k (v.ev fun _=>zy)
theorem zid (v:SV) (k:AV→Prop):evK v k=k (v.ev fun _=>zy):=by
 cases v <;> rfl
def covW (H:Nat→Option SR) (v:Option SV) (σ : List (Nat×Nat)) (u:SV):Prop:=
 match v with
 |none=>False
 |some v=>match u.all (fun _=>false) with
  |true=>(match frz H v with
   |some x=>evK u fun y=>Tl x y
   |none=>False)
  |false=>∀ ρ,v.ev ρ = (u.ren σ).ev ρ
def entS (H:Nat→Option SR) (sl:List (Nat×SV)) (σ : List (Nat×Nat)):List (Nat×SV)→Prop
 | []=>True
 |(d,v)::r=>covW H (lkS sl d) σ v∧entS H sl σ r
def entR (H:Nat→Option SR) (σ : List (Nat×Nat)) (k:Nat) (r:SR):Prop:=
 match lkS σ k,r with
 |some j,.cells T cs=>(match H j with
  |some (.cells T' cs')=>T'=T∧∀ ρ,SV.evs ρ cs'=SV.evs ρ (SV.rens σ cs)
  | _=>False)
 |some j,.tip sz T xs=>(match H j with
  |some (.tip sz' T' xs')=>(sz'=sz∧T'=T)∧xs'=xs
  | _=>False)
 |none,.tip _ _ xs=>xs=[]
 |some j,.own sz T xs=>(match H j with
  |some (.own sz' T' xs')=>(sz'=sz∧T'=T)∧xs'=xs
  | _=>False)
 |none,.own _ _ xs=>xs=[]
 |none,.cells _ _=>False
 |some j,.obj P=>(match H j with
  |some (.obj P')=>∀ x c,P' x c→P x c
  | _=>False)
 |none,.obj _=>False
 |some j,.rows T ys cs=>(match H j with
  |some (.rows T' ys' cs')=>(T'=T∧ys'=ys)∧∀ ρ,SV.evs ρ cs'=SV.evs ρ (SV.rens σ cs)
  | _=>False)
 |none,.rows _ ys cs=>ys=[]∧cs=[]
def entH (H:Nat→Option SR) (σ : List (Nat×Nat)):List (Nat×Option SR)→Prop
 | []=>True
 |(k,some r)::l=>entR H σ k r∧entH H σ l
 |(_,none)::l=>entH H σ l
def injN:List (Nat×Nat)→Bool
 | []=>true
 |(_,j)::r=>r.all (fun q=> !Nat.beq q.2 j) && injN r
def fltN (hp:List (Nat×Option SR)):List (Nat×Nat)→List (Nat×Nat)
 | []=>[]
 |(k,j)::r=>match lkS hp k with
  |some _=>(k,j)::fltN hp r
  |none=>fltN hp r
theorem qp8 {hp:List (Nat×Option SR)} {k:Nat} {x:Option SR} (hk:lkS hp k=some x):∀ σ : List (Nat×Nat),lkS (fltN hp σ) k=lkS σ k
 | []=>rfl
 |(i,j)::r=>by
  have ih:=qp8 hk r;simp only [fltN];by_cases e:i=k
  ·subst e
   rw [hk];simp [lkS]
  ·cases h:lkS hp i with
   |none=>simp only [lkS,jb e,cond_false];exact ih
   |some y=>simp only [lkS,jb e,cond_false];exact ih
def okC (C:Conf):Bool:=C.sl.all (fun q=>q.2.all fun k=>Nat.blt k C.nx) && C.hp.all (fun q=>Nat.blt q.1 C.nx && match q.2 with
 |some r=>r.all fun k=>Nat.blt k C.nx
 |none=>true)
def rigN (σ : List (Nat×Nat)):Nat→Bool
 | 0=>true
 |n+1=>(match lkS σ n with
  |some j=>Nat.beq j n
  |none=>false) && rigN σ n
def idN:Nat→List (Nat×Nat)
 | 0=>[]
 |n+1=>(n,n)::idN n
theorem qqr {σ : List (Nat×Nat)}:∀ {n:Nat},rigN σ n=true→∀ k,k<n→lkS σ k=some k
 | 0,_,k,hk=>by omega
 |n+1,h,k,hk=>by
  simp only [rigN,Bool.and_eq_true] at h;by_cases e:k=n
  ·subst e
   have h1:=h.1;split at h1
   ·rename_i j hj
    rw [hj,Nat.eq_of_beq_eq_true h1]
   ·simp at h1
  ·exact qqr h.2 k (by omega)
def EntC (σ : List (Nat×Nat)) (C C':Conf):Prop:=entS (hpF C.hp) C.sl σ C'.sl∧entH (hpF C.hp) σ C'.hp∧(injN (fltN C'.hp σ) && okC C')=true
mutual
def prs:SV→SV→List (Nat×Nat)
 | .tp k,.tp j=>[(k,j)]
 | .bx k _,.bx j _=>[(k,j)]
 | .ag a,.ag b=>prsL a b
 | .tu a,.tu b=>prsL a b
 | .fn _ a b,.fn _ c d=>prsL a c++prsL b d
 | .ifc _ x,.ifc _ y=>prs x y
 | _,_=>[]
def prsL:List SV→List SV→List (Nat×Nat)
 |x::r,y::s=>prs x y++prsL r s
 | _,_=>[]
end
def addS:List (Nat×Nat)→List (Nat×Nat)→List (Nat×Nat)
 |acc,[]=>acc
 |acc,(k,j)::r=>match lkS acc k with
  |some _=>addS acc r
  |none=>addS ((k,j)::acc) r
def sigS (sl:List (Nat×SV)):List (Nat×SV)→List (Nat×Nat)
 | []=>[]
 |(d,v)::r=>(match lkS sl d with
  |some u=>prs v u
  |none=>[])++sigS sl r
def sigH (H:Nat→Option SR) (σ : List (Nat×Nat)):List (Nat×Option SR)→List (Nat×Nat)
 | []=>[]
 |(k,some (.cells _ cs))::r=>(match lkS σ k with
  |some j=>(match H j with
   |some (.cells _ ds)=>prsL cs ds
   | _=>[])
  |none=>[])++sigH H σ r
 | _::r=>sigH H σ r
def fcP:List (Nat×Nat)→(List (Nat×Nat)→Prop)→Prop
 | [],k=>k []
 |(a,b)::r,k=>fcP r fun r=>k ((a,b)::r)
theorem qze:∀ (l:List (Nat×Nat)) (k:List (Nat×Nat)→Prop),fcP l k=k l
 | [],_=>rfl
 |(a,b)::r,k=>by simp only [fcP,qze r]
def EntA (n0:Nat) (C C':Conf):Prop:=
 fcP (addS (idN n0) (sigS C.sl C'.sl)) fun a=>fcP (addS a (sigH (hpF C.hp) a C'.hp)) fun b=>fcP (addS b (sigH (hpF C.hp) b C'.hp)) fun σ=>(rigN σ n0 && Nat.ble n0 C'.nx)=true∧EntC σ C C'
theorem EntA.ent {n0:Nat} {C C':Conf} (h:EntA n0 C C'):∃ σ,(rigN σ n0 && Nat.ble n0 C'.nx)=true∧EntC σ C C':=by
 unfold EntA at h;simp only [qze] at h;exact⟨_,h⟩
theorem qza {H:Nat→Option SR} {sl:List (Nat×SV)} {σ : List (Nat×Nat)}:∀ {l:List (Nat×SV)} {d:Nat} {v:SV},entS H sl σ l→lkS l d=some v→covW H (lkS sl d) σ v
 | [],_,_,_,h=>by simp [lkS] at h
 |(i,x)::r,d,v,h,hl=>by
  unfold lkS at hl
  cases hb:Nat.beq i d with
  |true=>
   rw [hb] at hl;simp only [cond_true,Option.some.injEq] at hl;subst hl;rw [← Nat.eq_of_beq_eq_true hb]
   exact h.1
  |false=>rw [hb] at hl;exact qza h.2 hl
theorem qfr {H:Nat→Option SR} {σ : List (Nat×Nat)}:∀ {l:List (Nat×Option SR)} {k:Nat} {r:SR},entH H σ l→lkS l k=some (some r)→entR H σ k r
 | [],_,_,_,h=>by simp [lkS] at h
 |(i,none)::l,k,r,h,hl=>by
  unfold lkS at hl
  cases hb:Nat.beq i k with
  |true=>rw [hb] at hl;simp at hl
  |false=>rw [hb] at hl;exact qfr (l:=l) h hl
 |(i,some x)::l,k,r,h,hl=>by
  unfold lkS at hl
  cases hb:Nat.beq i k with
  |true=>
   rw [hb] at hl;simp only [cond_true,Option.some.injEq] at hl;subst hl;rw [← Nat.eq_of_beq_eq_true hb]
   exact h.1
  |false=>rw [hb] at hl;exact qfr (l:=l) h.2 hl
theorem qzw:∀ {σ : List (Nat×Nat)} {k k' j:Nat},injN σ = true→lkS σ k=some j→lkS σ k'=some j→k=k'
 | [],_,_,_,_,h,_=>by simp [lkS] at h
 |(i,x)::r,k,k',j,h,h1,h2=>by
  simp only [injN,Bool.and_eq_true] at h
  have no:∀ q,lkS r q=some x→False:=fun q hq=>by
   have:=List.all_eq_true.1 h.1 _ (va hq);simp at this
  unfold lkS at h1 h2
  cases hb:Nat.beq i k with
  |true=>
   rw [hb] at h1;simp only [cond_true,Option.some.injEq] at h1;subst h1
   cases mb:Nat.beq i k' with
   |true=>rw [← Nat.eq_of_beq_eq_true hb,← Nat.eq_of_beq_eq_true mb]
   |false=>rw [mb] at h2;exact (no _ h2).elim
  |false=>
   rw [hb] at h1
   cases mb:Nat.beq i k' with
   |true=>
    rw [mb] at h2;simp only [cond_true,Option.some.injEq] at h2;subst h2
    exact (no _ h1).elim
   |false=>rw [mb] at h2;exact qzw h.2 h1 h2
theorem xa {hp:List (Nat×Option SR)} {k:Nat} {r:SR} (h:hpF hp k=some r):lkS hp k=some (some r):=by
 unfold hpF at h
 cases hl:lkS hp k with
 |none=>rw [hl] at h;simp at h
 |some x=>rw [hl] at h;simp only at h;rw [h]
theorem EntC.sat {σ : List (Nat×Nat)} {C C':Conf} {S0:List AObj} {F:Nat→Prop} {ρ t:Nat→AV} {S:List AObj} (h:EntC σ C C') (hR:SatR S0 F C ρ t S):∃ t',(∀ d,Wk (t d) (t' d))∧SatR S0 F C' (renR σ ρ) t' S:=by
 obtain⟨hs,hh,hb⟩:=h;simp only [Bool.and_eq_true,okC] at hb;obtain⟨hi,o6,r8⟩:=hb;refine⟨fun d=>match lkS C'.sl d with|some v=>v.ev (renR σ ρ)|none=>t d,fun d=>?_,⟨fun d v hd=>by simp only [hd],⟨fun k r hk=>?_,fun k k' r r' b8 h1 h2 o ho=>?_⟩,fun k r hk o ho=>?_,hR.low,hR.len,fun d v hd=>?_,fun k r hk=>?_⟩⟩
 ·simp only
  cases hd:lkS C'.sl d with
  |none=>exact wa _
  |some v=>
   have hc:=qza hs hd;unfold covW at hc;split at hc
   ·exact hc.elim
   ·rename_i u hu
    rw [hR.sl d u hu];simp only;split at hc
    ·rename_i m9
     split at hc
     ·rename_i x hx
      rw [zid] at hc;have e:v.ev (renR σ ρ)=v.ev fun _=>zy:=qbi (f:=fun _=>false) (fun k hk=>by simp at hk) _ m9;rw [e];exact fun G y hy=>hc.ok G y (qgn hR.hp u x hx G y hy)
     ·exact hc.elim
    ·rw [hc ρ,qs9]
     exact wa _
 ·have hc:=qfr hh (xa hk)
  unfold entR at hc;unfold renR;split at hc
  ·rename_i j T cs hj
   rw [hj];split at hc
   ·rename_i T' cs' hH
    obtain⟨rfl,hc⟩:=hc;obtain⟨o,v,h1,h2,h0⟩:=hR.hp.ok j _ hH;refine⟨o,v,h1,?_,h0⟩;rw [h2,hc ρ,qdl];rfl
   ·exact hc.elim
  ·rename_i j sz T xs hj
   rw [hj];split at hc
   ·rename_i sz' T' xs' hH
    obtain⟨⟨rfl,rfl⟩,rfl⟩:=hc;exact hR.hp.ok j _ hH
   ·exact hc.elim
  ·rename_i sz T xs hj
   rw [hj];subst hc;exact .inl (.inl ⟨rfl,rfl⟩)
  ·rename_i j sz T xs hj
   rw [hj];split at hc
   ·rename_i sz' T' xs' hH
    obtain⟨⟨rfl,rfl⟩,rfl⟩:=hc;exact hR.hp.ok j _ hH
   ·exact hc.elim
  ·rename_i sz T xs hj
   rw [hj];subst hc;exact .inl ⟨rfl,qqm none⟩
  ·exact hc.elim
  ·rename_i j P hj
   rw [hj];split at hc
   ·rename_i P' hH
    obtain⟨o,x,h1,h2,h3,h4⟩:=hR.hp.ok j _ hH;exact⟨o,x,h1,h2,h3,hc x _ h4⟩
   ·exact hc.elim
  ·exact hc.elim
  ·rename_i j T ys cs hj
   rw [hj];split at hc
   ·rename_i T' ys' cs' hH
    obtain⟨⟨rfl,rfl⟩,hc⟩:=hc;have h1:=hR.hp.ok j _ hH
    show OwnS _ 1 _ (ys'++SV.evs (renR σ ρ) cs) _
    rw [← qdl,← hc ρ];exact h1
   ·exact hc.elim
  ·rename_i T ys cs hj
   rw [hj];obtain⟨rfl,rfl⟩:=hc;exact .inl ⟨rfl,qqm none⟩
 ·have key:∀ k r,hpF C'.hp k=some r→∀ o,zl (renR σ ρ k)=some o→∃ j r',lkS σ k=some j∧hpF C.hp j=some r'∧zl (ρ j)=some o:=fun k r hk o ho=>by
   have hc:=qfr hh (xa hk);unfold renR at ho
   cases hj:lkS σ k with
   |none=>rw [hj] at ho;simp [zl] at ho
   |some j=>
    rw [hj] at ho;unfold entR at hc;rw [hj] at hc
    cases r with
    |cells T cs=>
     simp only at hc;split at hc
     ·rename_i hH;exact⟨j,_,rfl,hH,ho⟩
     ·exact hc.elim
    |tip sz T xs=>
     simp only at hc;split at hc
     ·rename_i hH;exact⟨j,_,rfl,hH,ho⟩
     ·exact hc.elim
    |own sz T xs=>
     simp only at hc;split at hc
     ·rename_i hH;exact⟨j,_,rfl,hH,ho⟩
     ·exact hc.elim
    |obj P=>
     simp only at hc;split at hc
     ·rename_i hH;exact⟨j,_,rfl,hH,ho⟩
     ·exact hc.elim
    |rows T ys cs=>
     simp only at hc;split at hc
     ·rename_i hH;exact⟨j,_,rfl,hH,ho⟩
     ·exact hc.elim
  obtain⟨j,q,g1,g2,g3⟩:=key k r h1 o ho;intro d7;obtain⟨j',q',g4,g5,g6⟩:=key k' r' h2 o d7;exact hR.hp.sep j j' q q' (fun e=>b8 (qzw hi ((qp8 (xa h1) σ).trans g1) ((qp8 (xa h2) σ).trans (by rw [e];exact g4)))) g2 g5 o g3 g6
 ·have hc:=qfr hh (xa hk)
  unfold renR at ho
  cases hj:lkS σ k with
  |none=>rw [hj] at ho;simp [zl] at ho
  |some j=>
   rw [hj] at ho;unfold entR at hc;rw [hj] at hc
   cases r with
   |cells T cs=>
    simp only at hc;split at hc
    ·rename_i hH;exact hR.own j _ hH o ho
    ·exact hc.elim
   |tip sz T xs=>
    simp only at hc;split at hc
    ·rename_i hH;exact hR.own j _ hH o ho
    ·exact hc.elim
   |own sz T xs=>
    simp only at hc;split at hc
    ·rename_i hH;exact hR.own j _ hH o ho
    ·exact hc.elim
   |obj P=>
    simp only at hc;split at hc
    ·rename_i hH;exact hR.own j _ hH o ho
    ·exact hc.elim
   |rows T ys cs=>
    simp only at hc;split at hc
    ·rename_i hH;exact hR.own j _ hH o ho
    ·exact hc.elim
 ·exact List.all_eq_true.1 o6 _ (va hd)
 ·have:=List.all_eq_true.1 r8 _ (va (xa hk))
  simp only [Bool.and_eq_true] at this;exact⟨kz this.1,this.2⟩
section
variable {E : Env} {rd : Option Nat} {N : Nat} {B : Bs} {C : Conf} {Q : Exit → Conf → Prop}
theorem Frm.ren {B:Bs} {C C':Conf} {ρ : Nat→AV} {df:List Nat} {S:List AObj} {σ : List (Nat×Nat)} (h:Frm B C ρ df S) (hr:(rigN σ B.n0 && Nat.ble B.n0 C'.nx)=true):Frm B C' (renR σ ρ) df S:=by
 simp only [Bool.and_eq_true] at hr;refine⟨h.dm,h.nd,fun k hk=>?_,Nat.le_of_ble_eq_true hr.2,h.dz⟩;unfold renR;rw [qqr hr.1 k hk];exact h.rig k hk
theorem qyu {c:Code} {Q:Exit→AS→Prop} {t t':Nat→AV} {S:List AObj} {df:List Nat} (hw:∀ d,Wk (t d) (t' d)) (h:AWp E rd N c Q ⟨t',S,df⟩):AWp E rd N c Q ⟨t,S,df⟩:=
 ⟨fun B0 w0 G a w hL hI=>h.run B0 w0 G a w hL ⟨hI.agree,hI.defers,hI.size,fun i y hy=>hw i G y (hI.tmps i y hy)⟩⟩
theorem j5 {X:Type} {c:Code} (I:X→Conf) (P:X→Prop) (μ : X→Nat) (x0:X) (h0:P x0) (he:EntA B.n0 C (I x0))
  (hr:∀ x,P x→Sm E rd N B c (fun e C'=>match e with
   | .normal=>∃ x',P x'∧μ x' < μ x∧EntA B.n0 C' (I x')
   |e=>Q e C') (I x)):Sm E rd N B (.loop c) Q C:=⟨fun s hs=>by
 refine ju (σ:=X) (fun x s=>P x∧∃ t',(∀ d,Wk (s.t d) (t' d))∧SatC B (I x) ⟨t',s.st,s.df⟩) μ x0 ?_ ?_
 ·obtain⟨t,S,df⟩:=s
  obtain⟨ρ,g7,hR⟩:=hs;simp only at g7 hR;obtain⟨σ0,dg,he⟩:=he.ent;obtain⟨t',hw,ln⟩:=he.sat hR;exact⟨h0,t',hw,_,g7.ren dg,ln⟩
 ·rintro x ⟨t,S,df⟩ ⟨hP,t',hw,hs⟩
  simp only at hw hs;refine qyu hw (((hr x hP).run ⟨t',S,df⟩ hs).mono fun e s' ⟨C',hq,bz⟩=>?_)
  cases e with
  |normal=>
   obtain⟨x',hP',d6,gf⟩:=hq;obtain⟨t2,S2,df2⟩:=s';obtain⟨ρ2,hdf2,gq⟩:=bz;simp only at hdf2 gq;obtain⟨σ,tn,gf⟩:=gf.ent;obtain⟨t3,hw3,hR3⟩:=gf.sat gq
   exact⟨x',⟨hP',t3,hw3,_,hdf2.ren tn,hR3⟩,d6⟩
  | _=>exact⟨C',hq,bz⟩⟩
end
def qdm (P:Program) (N:Nat) (C:Conf):ResultVar→Option SV
 | .tmp t=>sval N C.sl (.tmp t)
 | .cell a T=>(match sval N C.sl (.tmp a),tyOf P T with
  |some (.bx b off),some (sz,agg)=>(match hpF C.hp b with
   |some (.cells _ cs)=>qll sz agg off cs
   | _=>none)
  | _,_=>none)
def resV (P:Program) (N:Nat) (C:Conf):List ResultVar→Option SV
 | []=>some (.tu [])
 | [a]=>qdm P N C a
 | [a,b]=>(match qdm P N C a,qdm P N C b with
  |some x,some y=>some (.tu [x,y])
  | _,_=>none)
 | [a,b,c]=>(match qdm P N C a,qdm P N C b,qdm P N C c with
  |some x,some y,some z=>some (.tu [x,y,z])
  | _,_,_=>none)
 | [a,b,c,d]=>(match qdm P N C a,qdm P N C b,qdm P N C c,qdm P N C d with
  |some x,some y,some z,some u=>some (.tu [x,y,z,u])
  | _,_,_,_=>none)
 | _=>none
theorem zg3 {G:Gh} {x y z p:AV} {v u t q:Value} (h1:Rel G x v) (h2:Rel G y u) (h3:Rel G z t) (h4:Rel G p q):Rel G (.tu [x,y,z,p]) (.tuple #[v,u,t,q]):=
 .tu _ _ rfl fun i x' y' hx hy=>by
  match i with
  | 0=>simp at hx hy;subst hx;subst hy;exact h1
  | 1=>simp at hx hy;subst hx;subst hy;exact h2
  | 2=>simp at hx hy;subst hx;subst hy;exact h3
  | 3=>simp at hx hy;subst hx;subst hy;exact h4
  |i+4=>simp at hx
def q1d (r:ResultVar) (tm:Array Value):Sem Value:=
 match r with
 | .tmp t=>pure (tm.getD t undef)
 | .cell a t=>do loadVar t (← asAddr (tm.getD a undef))
theorem qhm (fn:Func) (tm:Array Value):results fn tm=(do
  let vs ← fn.results.mapM fun r=>q1d r tm
  pure (if h:vs.size=1 then vs[0] else .tuple vs)):=by
 unfold results;congr 1
theorem qbn {E:Env} {S0:List AObj} {F:Nat→Prop} {C:Conf} {ρ t:Nat→AV} {S:List AObj} {N:Nat} (hR:SatR S0 F C ρ t S) {r:ResultVar} {v:SV} (h:qdm E.P N C r=some v) {B0:Nat} {w0:World} {G:Gh} {a:Act} {w:World} (hI:Inv B0 w0 N G ⟨t,S,[]⟩ a w) :
  ∃ u,(q1d r a.tmps).run E.P w = .ok u w∧Rel G (v.ev ρ) u:=by
 cases r with
 |tmp i=>
  simp only [qdm] at h;refine⟨a.tmps.getD i undef,rfl,?_⟩;have:=hI.rd i;rw [qv hR.sl h] at this
  exact this
 |cell i T=>
  simp only [qdm] at h;split at h
  ·rename_i b off sz agg hb ht
   split at h
   ·rename_i T' cs hH
    obtain⟨o,ver,h1,h2,_⟩:=hR.hp.ok b _ hH;have he:=hI.rd i;rw [qv hR.sl hb] at he;simp only [SV.ev,h1,bxAt] at he;generalize hv:a.tmps.getD i undef=y at he
    cases he with
    |bx _ _ _ bl hn r7 gb=>
     obtain⟨_,g1,g2,g3,c,g4,g5,g6⟩:=hI.agree.ob o _ h2;have hb:=gb g1;rw [hb] at g4
     obtain⟨u,a8,hRel⟩:=qaf (w:=w) (G:=G) (b:=bl) (off:=off) (off':=off) ht (fun i x hx hi=>by
      obtain⟨y,hy⟩:=v4 hx (Nat.le_of_eq g5);refine⟨y,?_,g6 i x y hx hy⟩
      simp [World.cell?,g4,show off+(i - off)=i by omega,hy]) (qqh ρ h)
     refine⟨u,?_,hRel⟩;simp [q1d,hv,asAddr,a8]
   ·simp at h
  ·simp at h
theorem q4v {E:Env} {S0:List AObj} {F:Nat→Prop} {C:Conf} {ρ t:Nat→AV} {S:List AObj} {fn:Func} (hR:SatR S0 F C ρ t S) {v:SV} (h:resV E.P fn.ntmps C fn.results.toList=some v):ARes E fn ⟨t,S,[]⟩ (v.ev ρ):=by
 refine⟨fun B0 w0 G a w hL hI=>?_⟩
 cases hr:fn.results.toList with
 |nil=>
  rw [hr] at h;simp only [resV,Option.some.injEq] at h;subst h;have tl:fn.results = #[]:=by simpa using hr
  exact (yu tl).run B0 w0 G a w hL hI
 |cons r1 l1=>
  cases l1 with
  |nil=>
   rw [hr] at h;obtain⟨u,h1,h2⟩:=qbn hR h hI;have tl:fn.results = #[r1]:=by rw [← Array.toList_inj];exact hr
   refine⟨u,?_,h2⟩;rw [qhm,tl]
   simp [h1]
  |cons r2 l2=>
   cases l2 with
   |nil=>
    rw [hr] at h;simp only [resV] at h;split at h
    ·rename_i x y hx hy
     simp only [Option.some.injEq] at h;subst h;obtain⟨u1,h1,h2⟩:=qbn hR hx hI;obtain⟨u2,h3,h4⟩:=qbn hR hy hI;have tl:fn.results = #[r1,r2]:=by rw [← Array.toList_inj];exact hr
     refine⟨.tuple #[u1,u2],?_,qfv h2 h4⟩;rw [qhm,tl];simp [h1,h3]
    ·simp at h
   |cons r3 l3=>
    cases l3 with
    |nil=>
     rw [hr] at h;simp only [resV] at h;split at h
     ·rename_i x y z hx hy hz
      simp only [Option.some.injEq] at h;subst h;obtain⟨u1,h1,h2⟩:=qbn hR hx hI;obtain⟨u2,h3,h4⟩:=qbn hR hy hI;obtain⟨u3,h5,h6⟩:=qbn hR hz hI;have tl:fn.results = #[r1,r2,r3]:=by rw [← Array.toList_inj];exact hr
      refine⟨.tuple #[u1,u2,u3],?_,q4u h2 h4 h6⟩;rw [qhm,tl];simp [h1,h3,h5]
     ·simp at h
    |cons r4 l4=>
     cases l4 with
     |nil=>
      rw [hr] at h;simp only [resV] at h;split at h
      ·rename_i x y z p hx hy hz hp
       simp only [Option.some.injEq] at h;subst h;obtain⟨u1,h1,h2⟩:=qbn hR hx hI;obtain⟨u2,h3,h4⟩:=qbn hR hy hI;obtain⟨u3,h5,h6⟩:=qbn hR hz hI;obtain⟨u4,h7,h8⟩:=qbn hR hp hI;have tl:fn.results = #[r1,r2,r3,r4]:=by rw [← Array.toList_inj];exact hr
       refine⟨.tuple #[u1,u2,u3,u4],?_,zg3 h2 h4 h6 h8⟩;rw [qhm,tl];simp [h1,h3,h5,h7]
      ·simp at h
     |cons r5 l5=>rw [hr] at h;simp [resV] at h
def q6r (P:Program) (ts:List TypeId) (x:AV) (k:AV→Prop):Prop:=
 match ts,x with
 | [t],x=>nrmK P t x k
 |ts,.tu xs=>zipK P ts xs fun l=>k (.tu l)
 | _,x=>k x
theorem zc4 {P:Program} {ts:List TypeId} {x:AV} {k:AV→Prop} (h:q6r P ts x k):∃ y,Wk x y∧k y:=by
 unfold q6r at h;split at h
 ·exact qud h
 ·obtain⟨m,h1,h2⟩:=q5a h
  exact⟨_,zet h1.1 h1.2,h2⟩
 ·exact⟨_,wa _,h⟩
def ansW (P:Program) (fn:Func) (C:Conf) (k:AV→Prop):Prop:=
 match resV P fn.ntmps C fn.results.toList with
 |some v=>(match frz (hpF C.hp) v with
  |some x=>q6r P fn.resultTypes.toList x k
  |none=>False)
 |none=>False
theorem q3r {E:Env} {S0:List AObj} {F:Nat→Prop} {C:Conf} {ρ t:Nat→AV} {S:List AObj} {fn:Func} {k:AV→Prop} (hR:SatR S0 F C ρ t S) (h:ansW E.P fn C k):∃ y,ARes E fn ⟨t,S,[]⟩ y∧k y:=by
 unfold ansW at h;split at h
 ·rename_i v hv
  split at h
  ·rename_i x hx
   obtain⟨y,h1,h2⟩:=zc4 h;exact⟨y,wu (q4v hR hv) fun G z hz=>h1 G z (qgn hR.hp v x hx G z hz),h2⟩
  ·exact h.elim
 ·exact h.elim
def retW (P:Program) (fn:Func) (r0:AV) (e:Exit) (C:Conf):Prop:=
 match e with
 | .normal=>ansW P fn C fun y=>Tl y r0
 | .ret=>ansW P fn C fun y=>Tl y r0
 | _=>False
theorem qcz {α : Type}:∀ {l:List α} {i0 i:Nat} {v : α},lkS (je i0 l) i=some v→∃ j,i=i0+j∧l[j]? = some v
 | [],_,_,_,h=>by simp [je,lkS] at h
 |x::r,i0,i,v,h=>by
  simp only [je,lkS] at h
  cases hb:Nat.beq i0 i with
  |true=>
   rw [hb] at h;simp only [cond_true,Option.some.injEq] at h;subst h
   exact⟨0,(Nat.eq_of_beq_eq_true hb).symm,rfl⟩
  |false=>
   rw [hb] at h;obtain⟨j,h1,h2⟩:=qcz h;exact⟨j+1,by omega,by simpa using h2⟩
def numK {α : Type}:Nat→List α→(List (Nat×α)→Prop)→Prop
 | _,[],k=>k []
 |i,x::r,k=>numK (i+1) r fun l=>k ((i,x)::l)
theorem qoi {α : Type}:∀ (l:List α) (i:Nat) (k:List (Nat×α)→Prop),numK i l k=k (je i l)
 | [],_,_=>rfl
 |x::r,i,k=>by rw [numK,qoi r];rfl
theorem qg9 {E:Env} {fn:Func} {R:AV→List AObj→Prop} {S0:List AObj} {F:Nat→Prop} {C:Conf} {ρ t:Nat→AV}:∀ {df:List Nat} {S:List AObj},SatR S0 F C ρ t S→(∀ d∈df,S[d]? = some .dfr∧S0.length≤d)→df.Nodup→(∀ S',SatR S0 F C ρ t S'→ARet E fn R ⟨t,S',[]⟩)→ARet E fn R ⟨t,S,df⟩
 | [],S,hR,_,_,h=>h S hR
 |d::df,S,hR,hm,hn,h=>by
  have hd:=hm d (by simp);have rp:=List.nodup_cons.1 hn;refine qmv rfl hd.1 (qg9 (hR.dead hd.1 hd.2) (fun x hx=>?_) rp.2 h);have b8:d≠x:=fun e=>rp.1 (e▸hx);simp only;rw [List.getElem?_set_ne b8];exact hm x (List.mem_cons_of_mem _ hx)
theorem zw {E:Env} {f:FuncId} {fn:Func} {c:Code} {args:List AV} {st:List AObj} {r0:AV} (vs:List SV) (hp:Pure r0) (hf:E.P.funcs[f]? = some fn) (hb:fn.body=some c) (hn:Nat.ble args.length fn.ntmps=true) (hv:∀ ρ,SV.evs ρ vs=args) (hc:okC ⟨je 0 vs,[],0⟩=true)
  (h:∀ S0,numK 0 vs fun sl=>Sm E none fn.ntmps ⟨S0,fun _=>False,fun _=>zy,0,False⟩ c (retW E.P fn r0) ⟨sl,[],0⟩):qo E f args st fun r st'=>r=r0∧st'=st:=by
 simp only [qoi] at h;refine ze hp (qr hf hb (Nat.le_of_ble_eq_true hn) ?_)
 have d8:SatC ⟨st++[],fun _=>False,fun _=>zy,0,False⟩ ⟨je 0 vs,[],0⟩ ⟨argT args,st++[],[]⟩:=by
  refine⟨fun _=>zy,⟨nofun,List.nodup_nil,fun _ _=>rfl,Nat.le_refl _,nofun⟩,⟨fun d v hd=>?_,⟨fun k r hk=>?_,fun k k' r r' _ hk=>?_⟩,fun k r hk=>?_,fun _ _ _=>rfl,Nat.le_refl _,fun d v hd=>?_,fun k r hk=>?_⟩⟩
  ·obtain⟨j,h1,h2⟩:=qcz hd
   have:args[j]? = some (v.ev fun _=>zy):=by rw [← hv fun _=>zy,km,List.getElem?_map,h2];rfl
   rw [h1,Nat.zero_add];simp only [argT,List.getD,this,Option.getD_some]
  ·simp [hpF,lkS] at hk
  ·simp [hpF,lkS] at hk
  ·simp [hpF,lkS] at hk
  ·simp only [okC,Bool.and_eq_true] at hc
   exact List.all_eq_true.1 hc.1 _ (va hd)
  ·simp [hpF,lkS] at hk
 refine ((h (st++[])).run _ d8).mono fun e s' ⟨C',hq,bz⟩=>?_;obtain⟨t,S,df⟩:=s';obtain⟨ρ,g7,hR⟩:=bz;simp only at g7 hR;have hdm:=g7.dm;have u6:=g7.nd;have hl:=hR.len
 have fin:ansW E.P fn C' (fun y=>Tl y r0)→ARet E fn (fun r st2=>r=r0∧∃ ext,st2=st++ext) ⟨t,S,df⟩:=fun h=>by
  refine qg9 hR (fun x hx=>hdm x hx) u6 fun S' ln=>?_;obtain⟨y,h1,h2⟩:=q3r ln h;refine qn rfl (wu h1 h2.ok) ⟨rfl,?_⟩;have hl:=ln.len;rw [List.append_nil] at hl
  exact qk7 hl fun k hk=>by
   have:=ln.low k (by simpa using hk) (fun h=>h);rw [List.append_nil] at this;exact this
 cases e with
 |normal=>exact fin hq
 |ret=>exact fin hq
 | _=>exact hq.elim
end Go.Av
namespace Go.Av
open Go Go.RowKit
def cf {α : Type} (L:Nat→Bool):Nat→List (List (Nat×α))→List (Nat×α)→List (Nat×α)
 | _,[],base=>base
 |i,c::r,base=>cf L (i+1) r (bif L i then c++base else base)
def xf {α : Type} (L:Nat→Bool) (k:Nat):Nat→List (List (Nat×α))→Option α
 | _,[]=>none
 |i,c::r=>match xf L k (i+1) r with
  |some v=>some v
  |none=>bif L i then lkS c k else none
theorem qdf {α : Type} (L:Nat→Bool) (k:Nat):∀ (i:Nat) (chs:List (List (Nat×α))) (base:List (Nat×α)),lkS (cf L i chs base) k=match xf L k i chs with|some v=>some v|none=>lkS base k
 | _,[],_=>rfl
 |i,c::r,base=>by
  simp only [cf,xf];rw [qdf L k (i+1) r]
  cases xf L k (i+1) r with
  |some v=>rfl
  |none=>
   cases L i with
   |true=>simp only [cond_true];rw [qcy];cases lkS c k <;> rfl
   |false=>rfl
theorem qcg {α : Type} {L L':Nat→Bool} {k:Nat}:∀ {i:Nat} {chs:List (List (Nat×α))},(∀ j c,chs[j]? = some c→lkS c k≠none→L (i+j)=L' (i+j))→xf L k i chs=xf L' k i chs
 | _,[],_=>rfl
 |i,c::r,h=>by
  simp only [xf]
  rw [qcg (L:=L) (L':=L') (i:=i+1) (chs:=r) fun j c hc hl=>by
   have:=h (j+1) c (by simpa using hc) hl;rw [show i+1+j=i+(j+1) by omega]
   exact this]
  cases xf L' k (i+1) r with
  |some v=>rfl
  |none=>
   simp only
   cases hl:lkS c k with
   |none=>cases L i <;> cases L' i <;> rfl
   |some v=>
    have:=h 0 c rfl (by rw [hl];simp);rw [Nat.add_zero] at this;rw [this]
theorem qhg {α : Type} {L:Nat→Bool} {k:Nat} {v : α}:∀ {i:Nat} {chs:List (List (Nat×α))},xf L k i chs=some v→∃ j c,chs[j]? = some c∧L (i+j)=true∧lkS c k=some v
 | _,[],h=>by simp [xf] at h
 |i,c::r,h=>by
  simp only [xf] at h
  cases hr:xf L k (i+1) r with
  |some w=>
   rw [hr] at h;simp only [Option.some.injEq] at h;subst h;obtain⟨j,c',h1,h2,h3⟩:=qhg hr
   exact⟨j+1,c',by simpa using h1,by rw [show i+(j+1)=i+1+j by omega];exact h2,h3⟩
  |none=>
   rw [hr] at h;simp only at h
   cases hL:L i with
   |true=>rw [hL] at h;exact⟨0,c,rfl,hL,h⟩
   |false=>rw [hL] at h;simp at h
theorem qng {α : Type} {L:Nat→Bool} {k:Nat}:∀ {i j0:Nat} {chs:List (List (Nat×α))} {c0:List (Nat×α)},chs[j0]? = some c0→(∀ j c,j0<j→chs[j]? = some c→L (i+j)=true→lkS c0 k≠none→lkS c k=none) →
  xf (addL L (i+j0)) k i chs=match lkS c0 k with|some v=>some v|none=>bif L (i+j0) then xf (addL L (i+j0)) k i chs else xf L k i chs
 | _,_,[],_,h,_=>by simp at h
 |i,0,c::r,c0,h,hd=>by
  simp only [List.getElem?_cons_zero,Option.some.injEq] at h;subst h
  have hr:xf (addL L (i+0)) k (i+1) r=xf L k (i+1) r:=qcg fun j c _ _=>by
   unfold addL;rw [jb (by omega),Bool.false_or]
  have ha:addL L (i+0) i=true:=by simp [addL]
  cases hl:lkS c k with
  |some v=>
   have hn:xf L k (i+1) r=none:=by
    cases hq:xf L k (i+1) r with
    |none=>rfl
    |some w=>
     obtain⟨j,c',h1,h2,h3⟩:=qhg hq;have:=hd (j+1) c' (by omega) (by simpa using h1) (by rw [show i+(j+1)=i+1+j by omega];exact h2) (by rw [hl];simp);rw [this] at h3;simp at h3
   simp only [xf,hr,hn,ha,cond_true,hl]
  |none=>
   cases rx:L (i+0) with
   |true=>rfl
   |false=>
    simp only [cond_false,xf,hr,ha,cond_true,hl];rw [Nat.add_zero] at rx;rw [rx]
    cases xf L k (i+1) r <;> rfl
 |i,j0+1,c::r,c0,h,hd=>by
  have ih:=qng (L:=L) (k:=k) (i:=i+1) (j0:=j0) (chs:=r) (c0:=c0) (by simpa using h) fun j c hj hc hL hl=>hd (j+1) c (by omega) (by simpa using hc) (by rw [show i+(j+1)=i+1+j by omega];exact hL) hl;rw [show i+1+j0=i+(j0+1) by omega] at ih
  have hi:addL L (i+(j0+1)) i=L i:=by
   unfold addL;rw [jb (by omega),Bool.false_or]
  cases hl:lkS c0 k with
  |some v=>rw [hl] at ih;simp only [xf,ih]
  |none=>
   rw [hl] at ih;simp only at ih
   cases rx:L (i+(j0+1)) with
   |true=>rfl
   |false=>
    rw [rx] at ih;simp only [cond_false] at ih ⊢;simp only [xf,ih,hi]
theorem qkl {α : Type}:∀ {L:Nat→Bool} {i:Nat} {chs:List (List (Nat×α))} {base:List (Nat×α)},(∀ j,j<chs.length→L (i+j)=false)→cf L i chs base=base
 | _,_,[],_,_=>rfl
 |L,i,c::r,base,h=>by
  have h0:=h 0 (by simp);rw [Nat.add_zero] at h0;simp only [cf,h0,cond_false]
  exact qkl fun j hj=>by
   have:=h (j+1) (by simpa using hj);rw [show i+1+j=i+(j+1) by omega];exact this
structure Tr where
 rd:List Nat
 dst:Option Nat
 e:Ef
 nx:Nat
def Tr.sch (t:Tr):List (Nat×SV):=match t.dst with
 |some d=>[(d,t.e.val)]
 |none=>[]
def runT:List Tr→Conf→Conf
 | [],C=>C
 |t::r,C=>runT r (C.app t.dst t.e)
theorem zhw (C:Conf) (t:Tr):(C.app t.dst t.e).sl=t.sch++C.sl:=by
 unfold Conf.app Tr.sch
 cases t.dst <;> rfl
theorem qkm:∀ (tr:List Tr) (i0 n:Nat) (C:Conf),cf (fun j=>Nat.blt j (i0+n)) i0 (tr.map Tr.sch) C.sl=(runT (tr.take n) C).sl∧cf (fun j=>Nat.blt j (i0+n)) i0 (tr.map fun t=>t.e.ch) C.hp=(runT (tr.take n) C).hp
 | [],_,n,C=>by simp [cf,runT]
 |t::r,i0,0,C=>by
  have hf:∀ {m:Nat} (j:Nat),j<m→Nat.blt (i0+j) (i0+0)=false:=fun j _=>by
   cases hb:Nat.blt (i0+j) (i0+0) with
   |false=>rfl
   |true=>have:=kz hb;omega
  exact⟨qkl fun j hj=>hf j hj,qkl fun j hj=>hf j hj⟩
 |t::r,i0,n+1,C=>by
  have hb:Nat.blt i0 (i0+(n+1))=true:=qa1 (by omega);have ih:=qkm r (i0+1) n (C.app t.dst t.e);rw [show i0+1+n=i0+(n+1) by omega] at ih;simp only [List.map_cons,cf,hb,cond_true,List.take_succ_cons,runT];rw [← zhw];exact ih
def j7 (ch:List (Nat×Option SR)):List Nat:=ch.map Prod.fst
def qcm (a b:List Nat):Bool:=a.all fun x=> !memN b x
def dstL:Option Nat→List Nat
 |some d=>[d]
 |none=>[]
def indT (a b:Tr):Bool:=
 qcm (dstL a.dst) b.rd && qcm (dstL a.dst) (dstL b.dst) && qcm (dstL b.dst) a.rd &&
 qcm (j7 a.e.ch) b.e.ks && qcm (j7 a.e.ch) (j7 b.e.ch) && qcm (j7 b.e.ch) a.e.ks &&
 b.e.val.all (fun k=>Nat.blt k a.nx ||Nat.ble a.e.nx k) && b.e.ch.all (fun q=>(Nat.blt q.1 a.nx ||Nat.ble a.e.nx q.1) && match q.2 with
  |some r=>r.all fun k=>Nat.blt k a.nx ||Nat.ble a.e.nx k
  |none=>true)
def qhh (o:Oper) (acc:List Nat):Nat:=(qcn o).foldl (fun m d=>(m ||| 2 ^ d) |||acc.getD d 0) 0
def ancs:List Oper→List Nat→List Nat
 | [],acc=>acc
 |o::r,acc=>ancs r (acc++[qhh o acc])
inductive AncR (l:List Oper):Nat→Nat→Prop
 |dep {i j:Nat} {o:Oper} (ho:l[j]? = some o) (hi:i∈qcn o):AncR l i j
 |step {i d j:Nat} {o:Oper} (ho:l[j]? = some o) (hd:d∈qcn o) (h:AncR l i d):AncR l i j
theorem q9m {l:List Oper} {acc:List Nat} (pk:∀ j i,(acc.getD j 0).testBit i=true→AncR l i j) {o:Oper} {j:Nat} (ho:l[j]? = some o) {i:Nat} (h:(qhh o acc).testBit i=true):AncR l i j:=by
 unfold qhh at h
 have key:∀ (ds:List Nat) (m:Nat),(∀ d∈ds,d∈qcn o)→(m.testBit i=true→AncR l i j)→(ds.foldl (fun m d=>(m ||| 2 ^ d) |||acc.getD d 0) m).testBit i=true→AncR l i j:=by
  intro ds
  induction ds with
  |nil=>exact fun m _ hm h=>hm h
  |cons d r ih=>
   intro m hd hm h;refine ih ((m ||| 2 ^ d) |||acc.getD d 0) (fun d' t7=>hd d' (by simp [t7])) (fun hb=>?_) h;rw [Nat.testBit_or,Nat.testBit_or,Bool.or_eq_true,Bool.or_eq_true,Nat.testBit_two_pow] at hb;rcases hb with (hb|hb)|hb
   ·exact hm hb
   ·have:d=i:=by simpa using hb
    subst this;exact .dep ho (hd d (by simp))
   ·exact .step ho (hd d (by simp)) (pk d i hb)
 exact key (qcn o) 0 (fun d hd=>hd) (fun h=>by simp at h) h
theorem qyb {l:List Oper}:∀ (r:List Oper) (acc:List Nat),(∀ k o,r[k]? = some o→l[acc.length+k]? = some o)→(∀ j i,(acc.getD j 0).testBit i=true→AncR l i j)→∀ j i,((ancs r acc).getD j 0).testBit i=true→AncR l i j
 | [],acc,_,h=>h
 |o::r,acc,hr,h=>by
  refine qyb r (acc++[qhh o acc]) (fun k o' hk=>?_) (fun j i hb=>?_)
  ·have:=hr (k+1) o' (by simpa using hk)
   rw [List.length_append];simp only [List.length_cons,List.length_nil];rw [show acc.length+(0+1)+k=acc.length+(k+1) by omega];exact this
  ·by_cases hj:j<acc.length
   ·have e:(acc++[qhh o acc]).getD j 0=acc.getD j 0:=by simp [List.getD,List.getElem?_append_left hj]
    rw [e] at hb;exact h j i hb
   ·by_cases hj':j=acc.length
    ·subst hj'
     have e:(acc++[qhh o acc]).getD acc.length 0=qhh o acc:=by simp [List.getD]
     rw [e] at hb;exact q9m h (by have:=hr 0 o rfl;simpa using this) hb
    ·have e:(acc++[qhh o acc]).getD j 0=0:=by simp [List.getD,List.getElem?_eq_none (show (acc++[qhh o acc]).length≤j by simp;omega)]
     rw [e] at hb;simp at hb
def chkR:Nat→Tr→Nat→List Tr→List Nat→Bool
 | _,_,_,[],_=>true
 |i,a,j,b::r,m=>((m.getD j 0).testBit i ||indT a b) && chkR i a (j+1) r m
def chkT:Nat→List Tr→List Nat→Bool
 | _,[],_=>true
 |i,a::r,m=>chkR i a (i+1) r m && chkT (i+1) r m
theorem qyz:∀ {i:Nat} {a:Tr} {j0:Nat} {l:List Tr} {m:List Nat},chkR i a j0 l m=true→∀ j b,l[j]? = some b→(m.getD (j0+j) 0).testBit i=true∨indT a b=true
 | _,_,_,[],_,_,j,b,h=>by simp at h
 |i,a,j0,b::r,m,h,j,b',hb=>by
  simp only [chkR,Bool.and_eq_true,Bool.or_eq_true] at h
  cases j with
  |zero=>
   simp only [List.getElem?_cons_zero,Option.some.injEq] at hb;subst hb
   exact h.1
  |succ j=>
   have:=qyz h.2 j b' (by simpa using hb);rw [show j0+(j+1)=j0+1+j by omega];exact this
theorem qy0:∀ {i0:Nat} {l:List Tr} {m:List Nat},chkT i0 l m=true→∀ i j a b,i<j→l[i]? = some a→l[j]? = some b→(m.getD (i0+j) 0).testBit (i0+i)=true∨indT a b=true
 | _,[],_,_,_,_,_,_,_,h,_=>by simp at h
 |i0,a::r,m,h,i,j,a',b',nw,ha,hb=>by
  simp only [chkT,Bool.and_eq_true] at h
  cases i with
  |zero=>
   simp only [List.getElem?_cons_zero,Option.some.injEq] at ha;subst ha;obtain⟨j,rfl⟩:∃ j',j=j'+1:=⟨j - 1,by omega⟩;have:=qyz h.1 j b' (by simpa using hb);rw [show i0+(j+1)=i0+1+j by omega,Nat.add_zero]
   exact this
  |succ i=>
   obtain⟨j,rfl⟩:∃ j',j=j'+1:=⟨j - 1,by omega⟩;have:=qy0 h.2 i j a' b' (by omega) (by simpa using ha) (by simpa using hb);rw [show i0+(j+1)=i0+1+j by omega,show i0+(i+1)=i0+1+i by omega];exact this
theorem qei {a b:List Nat} (h:qcm a b=true) {x:Nat} (hx:memN a x=true):memN b x=false:=by
 unfold memN at hx;obtain⟨y,hy,e⟩:=List.any_eq_true.1 hx;have:=Nat.eq_of_beq_eq_true e;subst this
 simpa using List.all_eq_true.1 h _ hy
theorem qnm {ch:List (Nat×Option SR)} {k:Nat} (h:lkS ch k≠none):memN (j7 ch) k=true:=by
 cases hl:lkS ch k with
 |none=>exact absurd hl h
 |some v=>exact List.any_eq_true.2 ⟨k,List.mem_map.2 ⟨_,va hl,rfl⟩,by simp⟩
theorem qqj {t:Tr} {d:Nat} (h:lkS t.sch d≠none):memN (dstL t.dst) d=true:=by
 unfold Tr.sch at h
 cases ht:t.dst with
 |none=>rw [ht] at h;simp [lkS] at h
 |some x=>
  rw [ht] at h;simp only [lkS] at h;by_cases e:x=d
  ·subst e;simp [dstL,memN]
  ·rw [jb e] at h;simp at h
def rs (rd:List Nat) (sl:List (Nat×SV)):List (Nat×SV):=rd.filterMap fun d=>match lkS sl d with
 |some v=>some (d,v)
 |none=>none
theorem zi9 {rd:List Nat} {sl:List (Nat×SV)} {d:Nat} {v:SV} (h:lkS (rs rd sl) d=some v):memN rd d=true∧lkS sl d=some v:=by
 have:=va h;unfold rs at this;obtain⟨x,hx,he⟩:=List.mem_filterMap.1 this;split at he
 ·rename_i w hw
  simp only [Option.some.injEq,Prod.mk.injEq] at he;obtain⟨rfl,rfl⟩:=he;exact⟨List.any_eq_true.2 ⟨x,hx,by simp⟩,hw⟩
 ·simp at he
theorem qqi {l:List Nat} {x:Nat} (h:memN l x=true):x∈l:=by
 obtain⟨y,hy,e⟩:=List.any_eq_true.1 h;rw [Nat.eq_of_beq_eq_true e];exact hy
theorem SatR.congr {S0:List AObj} {F:Nat→Prop} {C C':Conf} {ρ t:Nat→AV} {S:List AObj} (h:SatR S0 F C ρ t S) (h1:∀ d,lkS C'.sl d=lkS C.sl d) (h2:hpF C'.hp=hpF C.hp) (h3:C.nx≤C'.nx):SatR S0 F C' ρ t S:=
 ⟨fun d v hd=>h.sl d v (by rw [← h1];exact hd),by rw [h2];exact h.hp,by rw [h2];exact h.own,h.low,h.len,fun d v hd=>all_mono (fun k hk=>qa1 (by have:=kz hk;omega)) v (h.wsl d v (by rw [← h1];exact hd)),fun k r hk=>by
  rw [h2] at hk;obtain⟨g1,g2⟩:=h.whp k r hk
  exact⟨by omega,SR.all_mono (fun k hk=>qa1 (by have:=kz hk;omega)) r g2⟩⟩
structure qxo (E:Env) (N:Nat) (l:List Oper) (C0:Conf) (tr:List Tr):Prop where
 len:tr.length=l.length
 loc:∀ i o t,l[i]? = some o→tr[i]? = some t→Loc E N l.toArray o t.nx (rs t.rd (runT (tr.take i) C0).sl) (hpF (runT (tr.take i) C0).hp) t.e∧t.e.wf t.nx=true∧t.nx=(runT (tr.take i) C0).nx∧t.dst=o.dst
theorem qku {E:Env} {N:Nat} {l:List Oper} {C0:Conf} {tr:List Tr} (h:qxo E N l C0 tr):∀ {i j:Nat},i≤j→j≤tr.length→(runT (tr.take i) C0).nx≤(runT (tr.take j) C0).nx:=by
 have step:∀ (r:List Tr) (C:Conf) (t:Tr),(runT (r++[t]) C)=(runT r C).app t.dst t.e:=by
  intro r
  induction r with
  |nil=>exact fun C t=>rfl
  |cons a r ih=>exact fun C t=>ih _ t
 intro i j nw
 induction nw with
 |refl=>exact fun _=>Nat.le_refl _
 |step hm ih=>
  rename_i m;intro hj;refine Nat.le_trans (ih (by omega)) ?_;have ht:tr[m]? = some (tr[m]'(by omega)):=List.getElem?_eq_getElem (by omega);have ho:l[m]? = some (l[m]'(by have:=h.len;omega)):=List.getElem?_eq_getElem _;obtain⟨_,h2,h3,_⟩:=h.loc m _ _ ho ht;rw [List.take_succ_eq_append_getElem (by omega),step];have:=(qf1 h2).1;rw [h3] at this;exact this
theorem zal {tr:List Tr} {i:Nat} {t:Tr} (ht:tr[i]? = some t) (C0:Conf):runT (tr.take (i+1)) C0=(runT (tr.take i) C0).app t.dst t.e:=by
 have step:∀ (r:List Tr) (C:Conf) (t:Tr),(runT (r++[t]) C)=(runT r C).app t.dst t.e:=by
  intro r
  induction r with
  |nil=>exact fun C t=>rfl
  |cons a r ih=>exact fun C t=>ih _ t
 obtain⟨hi,e⟩:=List.getElem?_eq_some_iff.1 ht;rw [List.take_succ_eq_append_getElem hi,step,e]
def qn7 (l:List Oper) (L:Nat→Bool):Prop:=∀ j o,L j=true→l[j]? = some o→∀ d∈qcn o,L d=true
theorem qn7.anc {l:List Oper} {L:Nat→Bool} (h:qn7 l L) {i j:Nat} (ha:AncR l i j):L j=true→L i=true:=by
 induction ha with
 |dep ho hi=>exact fun hj=>h _ _ hj ho _ hi
 |step ho hd _ ih=>exact fun hj=>ih (h _ _ hj ho _ hd)
theorem qu7 {E:Env} {rd:Option Nat} {N:Nat} {id:Nat} {l:List Oper} {B:Bs} {C0:Conf} {tr:List Tr} {Q:Exit→AS→Prop} {s:AS} (hm:E.P.follows .mixedOrders=true) (u6:l.toArray.all qeu=true) (hd:qgj 0 l=true)
  (hw:qxo E N l C0 tr) (hc:chkT 0 tr (ancs l [])=true) (hs:SatC B C0 s) (hq:∀ s',SatC B (runT tr C0) s'→Q .normal s'):AWp E rd N (.region id l.toArray true) Q s:=by
 have c8:=hw.len
 let NX:=(runT tr C0).nx
 let SC:=tr.map Tr.sch
 let HC:=tr.map fun t:Tr=>t.e.ch
 have hSC:∀ {j:Nat} {c:List (Nat×SV)},SC[j]? = some c→∃ t,tr[j]? = some t∧c=t.sch:=fun {j c} h=>by
  simp only [SC,List.getElem?_map] at h
  cases ht:tr[j]? with
  |none=>rw [ht] at h;simp at h
  |some t=>rw [ht] at h;simp at h;exact⟨t,rfl,h.symm⟩
 have hHC:∀ {j:Nat} {c:List (Nat×Option SR)},HC[j]? = some c→∃ t,tr[j]? = some t∧c=t.e.ch:=fun {j c} h=>by
  simp only [HC,List.getElem?_map] at h
  cases ht:tr[j]? with
  |none=>rw [ht] at h;simp at h
  |some t=>rw [ht] at h;simp at h;exact⟨t,rfl,h.symm⟩
 have hop:∀ {j:Nat} {t:Tr},tr[j]? = some t→∃ o,l[j]? = some o:=fun {j t} h=>⟨_,List.getElem?_eq_getElem (by have:=lt_of_getElem? h;omega)⟩;have r6:tr.take tr.length=tr:=List.take_length
 have s4:∀ {j:Nat} {t:Tr},tr[j]? = some t→t.nx=(runT (tr.take j) C0).nx∧t.e.nx=(runT (tr.take (j+1)) C0).nx:=fun {j t} h=>by
  obtain⟨o,ho⟩:=hop h;refine⟨(hw.loc j o t ho h).2.2.1,?_⟩;rw [zal h];rfl
 have o8:∀ {i j:Nat} {a b:Tr},i<j→tr[i]? = some a→tr[j]? = some b→a.e.nx≤b.nx:=fun {i j a b} nw ha hb=>by
  rw [(s4 ha).2,(s4 hb).1];exact qku hw (by omega) (by have:=lt_of_getElem? hb;omega)
 have hNX:∀ {j:Nat} {t:Tr},tr[j]? = some t→t.e.nx≤NX:=fun {j t} h=>by
  rw [(s4 h).2];have:=qku hw (i:=j+1) (j:=tr.length) (by have:=lt_of_getElem? h;omega) (Nat.le_refl _);rw [r6] at this;exact this
 have h0nx:∀ {j:Nat} {t:Tr},tr[j]? = some t→C0.nx≤t.nx:=fun {j t} h=>by
  rw [(s4 h).1];exact qku hw (i:=0) (Nat.zero_le j) (by have:=lt_of_getElem? h;omega)
 have hanc:∀ j i,((ancs l []).getD j 0).testBit i=true→AncR l i j:=qyb l [] (fun k o hk=>by simpa using hk) (fun j i h=>by simp [List.getD] at h)
 have pair:∀ {i j:Nat} {a b:Tr},i<j→tr[i]? = some a→tr[j]? = some b→AncR l i j∨indT a b=true:=fun {i j a b} nw ha hb=>by
  have:=qy0 hc i j a b nw ha hb;rw [Nat.zero_add,Nat.zero_add] at this;exact this.imp_left fun h=>hanc j i h
 have hb0:B.n0≤C0.nx:=by obtain⟨_,h,_⟩:=hs;exact h.le
 refine q79 hm u6 hd (fun L s=>qn7 l L∧SatC B ⟨cf L 0 SC C0.sl,cf L 0 HC C0.hp,NX⟩ s) ⟨fun j o h=>by simp at h,?_⟩ ?_ ?_
 ·obtain⟨ρ,g7,hR⟩:=hs
  have hC0:C0.nx≤NX:=by
   have:=qku hw (i:=0) (j:=tr.length) (Nat.zero_le _) (Nat.le_refl _);rw [r6] at this;exact this
  refine⟨ρ,g7.nx (Nat.le_trans g7.le hC0),hR.congr (fun d=>?_) ?_ ?_⟩
  ·rw [qkl fun _ _=>rfl]
  ·show hpF (cf (fun _=>false) 0 HC C0.hp)=hpF C0.hp
   rw [qkl fun _ _=>rfl]
  ·have:=qku hw (i:=0) (j:=tr.length) (Nat.zero_le _) (Nat.le_refl _)
   rw [r6] at this;exact this
 ·rintro L s' m9 ⟨_,ρ,g7,hR⟩
  refine hq s' ⟨ρ,g7.nx g7.le,hR.congr (fun d=>?_) ?_ (Nat.le_refl _)⟩
  ·have h1:=(qkm tr 0 tr.length C0).1
   rw [r6] at h1;rw [← h1];simp only [qdf]
   rw [qcg (L:=fun j=>Nat.blt j (0+tr.length)) (L':=L) fun j c hc _=>by
    obtain⟨t,ht,_⟩:=hSC hc;have hj:=lt_of_getElem? ht;rw [m9 (0+j) (by omega)]
    exact qa1 (by omega)]
  ·have h1:=(qkm tr 0 tr.length C0).2
   rw [r6] at h1;rw [← h1];funext k;unfold hpF;simp only [qdf]
   rw [qcg (L:=fun j=>Nat.blt j (0+tr.length)) (L':=L) fun j c hc _=>by
    obtain⟨t,ht,_⟩:=hHC hc;have hj:=lt_of_getElem? ht;rw [m9 (0+j) (by omega)]
    exact qa1 (by omega)]
 ·-- the steps
  suffices H:∀ (i:Nat) (o:Oper),l[i]? = some o→∀ L s,L i=false→(∀ j,(qcn o).contains j=true→L j=true)→(qn7 l L∧SatC B ⟨cf L 0 SC C0.sl,cf L 0 HC C0.hp,NX⟩ s) →
    AOps E none N l.toArray [o] (fun s=>qn7 l (addL L i)∧SatC B ⟨cf (addL L i) 0 SC C0.sl,cf (addL L i) 0 HC C0.hp,NX⟩ s) s by
   have gen:∀ (r:List Oper) (i0:Nat),(∀ k o,r[k]? = some o→l[i0+k]? = some o)→qmp E N l.toArray (fun L s=>qn7 l L∧SatC B ⟨cf L 0 SC C0.sl,cf L 0 HC C0.hp,NX⟩ s) i0 r:=by
    intro r
    induction r with
    |nil=>exact fun _ _=>trivial
    |cons o r ih=>
     intro i0 hr;exact⟨H i0 o (by have:=hr 0 o rfl;simpa using this),ih (i0+1) fun k o' hk=>by rw [show i0+1+k=i0+(k+1) by omega];exact hr (k+1) o' (by simpa using hk)⟩
   exact gen l 0 fun k o hk=>by simpa using hk
  rintro i o ho L ⟨t0,S,df⟩ rx sg ⟨sj,ρ,g7,hR⟩;simp only at g7 hR;have mg:=lt_of_getElem? ho;obtain⟨t,ht⟩:∃ t,tr[i]? = some t:=⟨_,List.getElem?_eq_getElem (by omega)⟩;obtain⟨hL,hwf,hnxi,hdst⟩:=hw.loc i o t ho ht;obtain⟨w1,w2,w3⟩:=qf1 hwf
  -- who has done what, told by the text
  have anc_in:∀ {j:Nat},AncR l j i→L j=true:=fun {j} h=>by
   cases h with
   |dep d7 hi=>
    rw [ho] at d7;simp only [Option.some.injEq] at d7;subst d7
    exact sg j (by simpa using hi)
   |step d7 t7 h'=>
    rw [ho] at d7;simp only [Option.some.injEq] at d7;subst d7;exact sj.anc h' (sg _ (by simpa using t7))
  have not_after:∀ {j:Nat},AncR l i j→L j=false:=fun {j} h=>by
   cases hj:L j with
   |false=>rfl
   |true=>rw [sj.anc h hj] at rx;simp at rx
  have agree:∀ {j:Nat} {b:Tr},tr[j]? = some b→(∀ (s3:j<i),indT b t=true→False)→(∀ (nw:i<j),indT t b=true→False)→L j=Nat.blt j i:=fun {j b} hb h1 h2=>by
   rcases Nat.lt_trichotomy j i with s3|s3|s3
   ·rw [qa1 s3]
    rcases pair s3 hb ht with h|h
    ·exact anc_in h
    ·exact (h1 s3 h).elim
   ·subst s3
    rw [rx]
    cases hbb:Nat.blt j j with
    |false=>rfl
    |true=>have:=kz hbb;omega
   ·have:Nat.blt j i=false:=by
     cases hbb:Nat.blt j i with
     |false=>rfl
     |true=>have:=kz hbb;omega
    rw [this];rcases pair s3 ht hb with h|h
    ·exact not_after h
    ·exact (h2 s3 h).elim
  have hslA:∀ d,memN t.rd d=true→lkS (cf L 0 SC C0.sl) d=lkS (runT (tr.take i) C0).sl d:=fun d hd=>by
   have h1:=(qkm tr 0 i C0).1;rw [← h1];simp only [qdf]
   rw [qcg (L:=L) (L':=fun j=>Nat.blt j (0+i)) fun j c hc hl=>by
    obtain⟨b,hb,rfl⟩:=hSC hc;have hdm:=qqj hl;rw [Nat.zero_add,Nat.zero_add];refine agree hb (fun s3 h=>?_) (fun nw h=>?_)
    ·simp only [indT,Bool.and_eq_true] at h
     have:=qei h.1.1.1.1.1.1.1 hdm;rw [hd] at this;simp at this
    ·simp only [indT,Bool.and_eq_true] at h
     have:=qei h.1.1.1.1.1.2 hdm;rw [hd] at this
     simp at this]
  have mf:resF t.e.ks (hpF (runT (tr.take i) C0).hp)=resF t.e.ks (hpF (cf L 0 HC C0.hp)):=by
   funext k;unfold resF
   cases hk:memN t.e.ks k with
   |false=>rfl
   |true=>
    simp only [cond_true];have h1:=(qkm tr 0 i C0).2;rw [← h1];unfold hpF;simp only [qdf]
    rw [qcg (L:=fun j=>Nat.blt j (0+i)) (L':=L) fun j c hc hl=>by
     obtain⟨b,hb,rfl⟩:=hHC hc;have hdm:=qnm hl;rw [Nat.zero_add,Nat.zero_add];refine (agree hb (fun s3 h=>?_) (fun nw h=>?_)).symm
     ·simp only [indT,Bool.and_eq_true] at h
      have:=qei h.1.1.1.1.2 hdm;rw [hk] at this;simp at this
     ·simp only [indT,Bool.and_eq_true] at h
      have:=qei h.1.1.2 hdm;rw [hk] at this
      simp at this]
  refine hL _ none _ [] ρ t0 S (fun d v t7=>?_) (by rw [mf];exact hR.hp.res _) fun ρ' S' hp=>qh ⟨fun j o' hj d7 d t7=>?_,ρ',?_,?_⟩
  ·obtain⟨g1,g2⟩:=zi9 t7
   exact hR.sl d v (by rw [hslA d g1];exact g2)
  ·unfold addL at hj ⊢
   rcases Bool.or_eq_true_iff.1 hj with hj|hj
   ·have:=Nat.eq_of_beq_eq_true hj
    subst this;rw [ho] at d7;simp only [Option.some.injEq] at d7;subst d7;rw [sg d (by simpa using t7),Bool.or_true]
   ·rw [sj j o' hj d7 d t7,Bool.or_true]
  ·have hp2:qg5 ρ S t.nx (hpF (cf L 0 HC C0.hp)) t.e ρ' S':=⟨hp.old,by rw [← mf];exact hp.sat,hp.len,by rw [← mf];exact hp.fr,by rw [← mf];exact hp.loc⟩
   have:=g7.stepG (C':=⟨cf (addL L i) 0 SC C0.sl,cf (addL L i) 0 HC C0.hp,NX⟩) hR.hp hp2 (by have:=hb0;have:=h0nx ht;omega) g7.le
   cases o.dst <;> exact this
  ·have hp2:qg5 ρ S t.nx (hpF (cf L 0 HC C0.hp)) t.e ρ' S':=⟨hp.old,by rw [← mf];exact hp.sat,hp.len,by rw [← mf];exact hp.fr,by rw [← mf];exact hp.loc⟩
   have old_lt:∀ k,Nat.blt k C0.nx=true→(Nat.blt k t.nx ||Nat.ble t.e.nx k)=true:=fun k hk=>by
    have:=h0nx ht;rw [qa1 (by have:=kz hk;omega),Bool.true_or]
   have ear_lt:∀ {j:Nat} {b:Tr},j<i→tr[j]? = some b→∀ k,Nat.blt k b.e.nx=true→(Nat.blt k t.nx ||Nat.ble t.e.nx k)=true:=fun {j b} s3 hb k hk=>by
    have:=o8 s3 hb ht;rw [qa1 (by have:=kz hk;omega),Bool.true_or]
   have lat:∀ {j:Nat} {b:Tr},tr[j]? = some b→L j=true→¬ j<i→indT t b=true∧i<j:=fun {j b} hb lk s3=>by
    have nw:i<j:=by
     rcases Nat.lt_trichotomy i j with h|h|h
     ·exact h
     ·subst h;rw [rx] at lk;simp at lk
     ·omega
    rcases pair nw ht hb with h|h
    ·rw [not_after h] at lk;simp at lk
    ·exact⟨h,nw⟩
   have d8:=hR.stepG (d:=o.dst) (nx:=t.nx) (NX:=NX) (Nat.le_refl _) (all_mono (fun k hk=>qa1 (by have:=kz hk;have:=hNX ht;omega)) _ w2) (fun q hq'=>⟨by have:=(w3 q hq').1;have:=hNX ht;omega,fun r hr=>SR.all_mono (fun k hk=>qa1 (by have:=kz hk;have:=hNX ht;omega)) r ((w3 q hq').2.2 r hr)⟩) (fun d v t7=>?_) (fun k r hk=>?_) hp2
   ·refine SatR.congr (S0:=B.S0) (F:=B.F) (C:=⟨match o.dst with|some d=>(d,t.e.val)::cf L 0 SC C0.sl|none=>cf L 0 SC C0.sl,t.e.ch++cf L 0 HC C0.hp,NX⟩) ?_ (fun d=>?_) ?_ (Nat.le_refl _)
    ·cases hod:o.dst with
     |none=>rw [hod] at d8;exact d8
     |some x=>rw [hod] at d8;exact d8
    ·have hSi:SC[i]? = some t.sch:=by simp only [SC,List.getElem?_map,ht];rfl
     have m8:=qng (L:=L) (k:=d) (i:=0) (j0:=i) hSi fun j c nw hc lk hl=>by
      obtain⟨b,hb,rfl⟩:=hSC hc;rw [Nat.zero_add] at lk;have h:=(lat hb lk (by omega)).1;simp only [indT,Bool.and_eq_true] at h;have h2:=qei h.1.1.1.1.1.1.2 (qqj hl)
      cases hq':lkS b.sch d with
      |none=>rfl
      |some w=>
       have:=qqj (t:=b) (d:=d) (by rw [hq'];simp);rw [h2] at this;simp at this
     rw [Nat.zero_add,rx] at m8;simp only [cond_false] at m8
     have e:lkS (match o.dst with|some d=>(d,t.e.val)::cf L 0 SC C0.sl|none=>cf L 0 SC C0.sl) d=lkS (t.sch++cf L 0 SC C0.sl) d:=by
      unfold Tr.sch;rw [hdst]
      cases o.dst <;> rfl
     rw [e,qcy];simp only [qdf];rw [m8]
     cases lkS t.sch d <;> rfl
    ·rw [q4a]
     funext k;have hHi:HC[i]? = some t.e.ch:=by simp only [HC,List.getElem?_map,ht];rfl
     have m8:=qng (L:=L) (k:=k) (i:=0) (j0:=i) hHi fun j c nw hc lk hl=>by
      obtain⟨b,hb,rfl⟩:=hHC hc;rw [Nat.zero_add] at lk;have h:=(lat hb lk (by omega)).1;simp only [indT,Bool.and_eq_true] at h;have h2:=qei h.1.1.1.2 (qnm hl)
      cases hq':lkS b.e.ch k with
      |none=>rfl
      |some w=>
       have:=qnm (ch:=b.e.ch) (k:=k) (by rw [hq'];simp);rw [h2] at this;simp at this
     rw [Nat.zero_add,rx] at m8;simp only [cond_false] at m8;unfold chF hpF;simp only [qdf];rw [m8]
     cases lkS t.e.ch k <;> rfl
   ·simp only [qdf] at t7
    cases i9:xf L d 0 SC with
    |none=>
     rw [i9] at t7;simp only at t7;obtain⟨ρ0,_,hR0⟩:=hs
     exact all_mono old_lt v (hR0.wsl d v t7)
    |some u=>
     rw [i9] at t7;simp only [Option.some.injEq] at t7;subst t7;obtain⟨j,c,lq,lk,hl⟩:=qhg i9;obtain⟨b,hb,rfl⟩:=hSC lq;rw [Nat.zero_add] at lk;obtain⟨ob,u7⟩:=hop hb
     have hu:u=b.e.val:=by
      unfold Tr.sch at hl
      cases hbd:b.dst with
      |none=>rw [hbd] at hl;simp [lkS] at hl
      |some x=>
       rw [hbd] at hl;simp only [lkS] at hl
       cases hbx:Nat.beq x d with
       |true=>rw [hbx] at hl;simp only [cond_true,Option.some.injEq] at hl;exact hl.symm
       |false=>rw [hbx] at hl;simp at hl
     subst hu;by_cases s3:j<i
     ·exact all_mono (ear_lt s3 hb) _ (qf1 (hw.loc j ob b u7 hb).2.1).2.1
     ·have h:=(lat hb lk s3).1
      simp only [indT,Bool.and_eq_true] at h;exact h.1.2
   ·have m0:=xa hk
    simp only [qdf] at m0
    cases i9:xf L k 0 HC with
    |none=>
     rw [i9] at m0;simp only at m0;obtain⟨ρ0,_,hR0⟩:=hs;obtain⟨g1,g2⟩:=hR0.whp k r (by unfold hpF;rw [m0])
     exact⟨.inl (by have:=h0nx ht;omega),SR.all_mono old_lt r g2⟩
    |some u=>
     rw [i9] at m0;simp only [Option.some.injEq] at m0;subst m0;obtain⟨j,c,lq,lk,hl⟩:=qhg i9;obtain⟨b,hb,rfl⟩:=hHC lq;rw [Nat.zero_add] at lk;obtain⟨ob,u7⟩:=hop hb;obtain⟨g1,_,g3⟩:=(qf1 (hw.loc j ob b u7 hb).2.1).2.2 _ (va hl);by_cases s3:j<i
     ·exact⟨.inl (by have:=o8 s3 hb ht;simp only at g1;omega),SR.all_mono (ear_lt s3 hb) r (g3 r rfl)⟩
     ·have h:=(lat hb lk s3).1
      simp only [indT,Bool.and_eq_true] at h;have h2:=List.all_eq_true.1 h.2 _ (va hl);simp only [Bool.and_eq_true,Bool.or_eq_true] at h2;exact⟨h2.1.imp kz Nat.le_of_ble_eq_true,h2.2⟩
def opTm:Operand→Option Nat
 | .tmp i=>some i
 | _=>none
def rdOf (l:List Oper) (o:Oper):List Nat:=o.op.operands.toList.filterMap opTm++match o.guard with
 |some (j,_)=>dstL (qxr l j)
 |none=>[]
def wpDr (E:Env) (N:Nat) (l:List Oper) (bxs:List Nat):Nat→List Oper→List Tr→(List Tr→Conf→Prop)→Conf→Prop
 | _,[],tr,K,C=>K tr C
 |i,o::r,tr,K,⟨sl,hp,nx⟩=>opG E N l bxs nx (rs (rdOf l o) sl) (hpF hp) (gdW (isGd i l) (fcE fun e=>qsq sl hp nx o.dst (wpDr E N l bxs (i+1) r (tr++[⟨rdOf l o,o.dst,e,nx⟩]) K) e)) o
theorem q1h (r:List Tr) (t:Tr):∀ C,runT (r++[t]) C=(runT r C).app t.dst t.e:=by
 induction r with
 |nil=>exact fun C=>rfl
 |cons a r ih=>exact fun C=>ih _
theorem q48 {E:Env} {N:Nat} {l:List Oper} {bxs:List Nat} {C0:Conf} {K:List Tr→Conf→Prop}:∀ {r:List Oper} {i:Nat} {tr:List Tr} {C:Conf},(∀ k,r[k]? = l[i+k]?)→tr.length=i→i+r.length=l.length→C=runT tr C0 →
  (∀ j o t,l[j]? = some o→tr[j]? = some t→Loc E N l.toArray o t.nx (rs t.rd (runT (tr.take j) C0).sl) (hpF (runT (tr.take j) C0).hp) t.e∧t.e.wf t.nx=true∧t.nx=(runT (tr.take j) C0).nx∧t.dst=o.dst) →
  wpDr E N l bxs i r tr K C→∃ tr',qxo E N l C0 tr'∧K tr' (runT tr' C0)
 | [],i,tr,C,hr,hl,hn,hC,hw,h=>⟨tr,⟨by simpa [hl] using hn,hw⟩,by rw [← hC];exact h⟩
 |o::r,i,tr,⟨sl,hp,nx⟩,hr,hl,hn,hC,hw,h=>by
  obtain⟨e,hL,h⟩:=q0k h;obtain⟨e,hL,h⟩:=qzq hL h;rw [qzc] at h;obtain⟨hwf,h⟩:=qql h
  ·refine q48 (r:=r) (i:=i+1) (tr:=tr++[⟨rdOf l o,o.dst,e,nx⟩]) (fun k=>?_) (by simp [hl]) (by simp at hn;omega) (by rw [q1h,← hC]) (fun j o' t ho ht=>?_) h
   ·have:=hr (k+1)
    rw [show i+1+k=i+(k+1) by omega,← this];rfl
   ·by_cases hj:j<tr.length
    ·rw [List.getElem?_append_left hj] at ht
     rw [List.take_append_of_le_length (by omega)];exact hw j o' t ho ht
    ·have s3:j=tr.length:=by
      have:=lt_of_getElem? ht;simp at this;omega
     subst s3;simp only [List.getElem?_concat_length,Option.some.injEq] at ht;subst ht;have bj:=hr 0;rw [← hl,Nat.add_zero,ho] at bj;simp only [List.getElem?_cons_zero,Option.some.injEq] at bj;subst bj;rw [List.take_left,← hC];exact⟨hL,hwf,rfl,rfl⟩
def drB (E:Env) (l:List Oper) (tr:List Tr):Bool:=E.P.follows .mixedOrders && l.toArray.all qeu && qgj 0 l && chkT 0 tr (ancs l [])
structure DrOk (E:Env) (l:List Oper) (tr:List Tr):Prop where
 ok:drB E l tr=true
theorem qd {E:Env} {rd:Option Nat} {N:Nat} {B:Bs} {Q:Exit→Conf→Prop} {C:Conf} {id:Nat} {ops:Array Oper} (bxs:List Nat)
  (h:wpDr E N ops.toList bxs 0 ops.toList [] (fun tr C'=>DrOk E ops.toList tr∧Q .normal C') C):Sm E rd N B (.region id ops true) Q C:=⟨fun s hs=>by
 obtain⟨tr,hw,hb,hq⟩:=q48 (C0:=C) (l:=ops.toList) (i:=0) (tr:=[]) (fun k=>by rw [Nat.zero_add]) rfl (by simp) rfl (fun j o t _ ht=>by simp at ht) h;have hb:=hb.ok;simp only [drB,Bool.and_eq_true] at hb;have e:ops=ops.toList.toArray:=by simp
 rw [e]
 exact qu7 hb.1.1.1 hb.1.1.2 hb.1.2 hw hb.2 hs fun s' bz=>⟨_,hq,bz⟩⟩
theorem cSd {P:Prop} (h:P:=by first|exact rfl|exact trivial|exact fun _=>rfl|exact zhn _|exact DrOk.mk (by kernel_rfl)|exact qb4 fun _=>rfl|omega|(simp only [List.length_map,List.length_append,List.length_cons,List.length_nil,List.length_take,List.length_drop];omega)|exact zjd):P:=h
theorem exr {α : Type} {A K : α→Prop} {a : α} (k:K a) (h:A a:=by exact rfl):∃ x,A x∧K x:=⟨a,h,k⟩
theorem cpe {E:Env} {H:Nat→Option SR} {nx:Nat} {f:FuncId} {vs:List SV} {args:List AV} {r0:AV} {k:Ef→Prop} (hc:∀ S,qo E f args S fun r S'=>r=r0∧S'=S) (hk:k ⟨nf r0,SV.kss vs,[],nx⟩) (ha:qxp E.P f (frzs (resF (SV.kss vs) H) vs)=some args:=by exact rfl):∃ e,ko E f vs nx H e∧k e:=⟨_,zfc hc ha,hk⟩
end Go.Av
namespace Go.Proofs.YtapblfabkbdgcaaGreatDoor
open Go Go.Av Go.RowKit Go.Proofs Go.Pl
def qca (n0:Nat) (ks:List Nat) (sl:List (Nat×SV)) (hp:List (Nat×Option SR)) (nx:Nat):Bool:=
 sl.all (fun q=>q.2.all fun k=>Nat.blt k n0) && hp.all (fun q=>match q.2 with
  |some (.cells _ _)=>memN ks q.1
  |some (.own _ _ _)=>false
  |some (.obj _)=>memN ks q.1
  |some (.rows _ _ _)=>false
  | _=>true) && Nat.ble n0 nx
def ksIn (n0:Nat) (ks:List Nat) (hp:List (Nat×Option SR)):Bool:=ks.all fun k=>Nat.blt k n0 && match lkS hp k with
 |some (some (.cells _ _))=>true
 |some (some (.obj _))=>true
 | _=>false
structure RB (E:Env) (N:Nat) (F:Nat→Prop) (ρ : Nat→AV) (n0:Nat) (body:Code) (Q:Exit→Conf→Prop) (C:Conf):Prop where
 run:∀ S rd,Sm E rd N ⟨S,F,ρ,n0,False⟩ body Q C
structure RA (E:Env) (N:Nat) (n0:Nat) (asg:Code) (K:(Nat→Prop)→(Nat→AV)→Conf→Prop) (C:Conf):Prop where
 run:∀ S F ρ rd,Sm E rd N ⟨S,F,ρ,n0,True⟩ asg (fun e C1=>match e with
  | .normal=>∀ F',K F' ρ C1
  | _=>False) C
def q5x (Q:Exit→Conf→Prop):Code→Conf→Prop
 | .ret=>Q .ret
 | .exit id=>Q (.exit id)
 | _=>fun _=>False
def qof (k:Nat) (text rest:List UInt8):SV:=.ag [.i k,.i ((text.length:Int) - rest.length),.s (upto 10 rest),.p (10∈rest) inferInstance]
theorem zcv (k:Nat) (text rest:List UInt8) (ρ : Nat→AV):(qof k text rest).ev ρ = qde k text rest:=rfl
@[reducible] def rndQ {X : Type} (n0 : Nat) (P : X → Prop) (D : Code → X → Prop) (C : X → Conf) (e : Exit) (C2 : Conf) : Prop := match e with
 | .normal=>∃ x,P x∧EntA n0 C2 (C x)
 | .ret=>∃ x,D .ret x∧EntA n0 C2 (C x)
 | .exit id=>∃ x,D (.exit id) x∧EntA n0 C2 (C x)
 | _=>False
section
variable {N : Nat} {B : Bs} {C : Conf} {Q : Exit → Conf → Prop} {rd : Option Nat}
structure RInv (B:Bs) (n0 n:Nat) (ks:List Nat) (ρ1 t:Nat→AV) (df:List Nat) (C:Conf) (S:List AObj):Prop where
 ex:∃ ρ,(∀ k,k<n0→ρ k = ρ1 k)∧SatR B.S0 B.F C ρ t S∧(∀ d∈df,S[d]? = some .dfr)∧n≤S.length
theorem qyy {n0 n:Nat} {ks:List Nat} {ρ1 ρ : Nat→AV} {hp:List (Nat×Option SR)} {sl:List (Nat×SV)} {nx k:Nat} {T:TypeId} {cs:List SV} (gw:∀ k∈ks,k<n0∧∃ o,zl (ρ1 k)=some o∧o<n) (hr:qca n0 ks sl hp nx=true) (hρ : ∀ k,k<n0→ρ k = ρ1 k) (hk:hpF hp k=some (.cells T cs)):k<n0∧∃ o,zl (ρ k)=some o∧o<n:=by
 have h1:=xa hk;simp only [qca,Bool.and_eq_true] at hr;have:=List.all_eq_true.1 hr.1.2 _ (va h1);simp only at this;obtain⟨g1,g2⟩:=gw k (qqi this);refine⟨g1,?_⟩;rw [hρ k g1];exact g2
theorem q91 {n0:Nat} {ks:List Nat} {sl:List (Nat×SV)} {hp:List (Nat×Option SR)} {nx k sz:Nat} {T:TypeId} {xs:List AV} (hr:qca n0 ks sl hp nx=true) (hk:hpF hp k=some (.own sz T xs)):False:=by
 have h1:=xa hk;simp only [qca,Bool.and_eq_true] at hr;have:=List.all_eq_true.1 hr.1.2 _ (va h1);simp at this
theorem q9p {n0 n:Nat} {ks:List Nat} {ρ1 ρ : Nat→AV} {hp:List (Nat×Option SR)} {sl:List (Nat×SV)} {nx k:Nat} {P:AObj→AV→Prop} (gw:∀ k∈ks,k<n0∧∃ o,zl (ρ1 k)=some o∧o<n) (hr:qca n0 ks sl hp nx=true) (hρ : ∀ k,k<n0→ρ k = ρ1 k) (hk:hpF hp k=some (.obj P)):k<n0∧∃ o,zl (ρ k)=some o∧o<n:=by
 have h1:=xa hk;simp only [qca,Bool.and_eq_true] at hr;have:=List.all_eq_true.1 hr.1.2 _ (va h1);simp only at this;obtain⟨g1,g2⟩:=gw k (qqi this);refine⟨g1,?_⟩;rw [hρ k g1];exact g2
theorem q4w {n0:Nat} {ks:List Nat} {sl:List (Nat×SV)} {hp:List (Nat×Option SR)} {nx k:Nat} {T2:TypeId} {ys2:List AV} {cs2:List SV} (hr:qca n0 ks sl hp nx=true) (hk:hpF hp k=some (.rows T2 ys2 cs2)):False:=by
 have h1:=xa hk;simp only [qca,Bool.and_eq_true] at hr;have:=List.all_eq_true.1 hr.1.2 _ (va h1);simp at this
theorem RInv.ext {n0 n:Nat} {ks:List Nat} {ρ1 t:Nat→AV} {df:List Nat} {C:Conf} {S S':List AObj} (h:RInv B n0 n ks ρ1 t df C S) (gw:∀ k∈ks,k<n0∧∃ o,zl (ρ1 k)=some o∧o<n) (hr:qca n0 ks C.sl C.hp C.nx=true) (hB:B.S0.length≤n) (hdn:∀ d∈df,d<n) (hE:Ext n S S'):RInv B n0 n ks ρ1 t df C S':=by
 obtain⟨ρ,hρ,hR,hd,hn⟩:=h.ex;refine⟨ρ,hρ,⟨hR.sl,⟨fun k r hk=>?_,hR.hp.sep⟩,hR.own,fun j hj hF=>?_,Nat.le_trans hR.len hE.len,hR.wsl,hR.whp⟩,fun d hdd=>?_,Nat.le_trans hn hE.len⟩
 ·refine SR.ok_of (f:=fun _=>true) (SR.all_mono (fun _ _=>rfl) r (hR.whp k r hk).2) (fun _ _=>rfl) (hR.hp.ok k r hk) fun o ho=>?_
  rcases SR.ok_ct (hR.hp.ok k r hk) ho with⟨T,cs,v,h1,T',cs',rfl⟩ | ⟨m,sz,T,h1⟩ | ⟨sz,T,xs,rfl⟩ | ⟨P1,rfl⟩ | ⟨T2,ys2,cs2,rfl⟩
  rotate_left 2
  ·exact (q91 hr hk).elim
  ·obtain⟨_,o',h2,h3⟩:=q9p gw hr hρ hk
   rw [h2] at ho;simp only [Option.some.injEq] at ho;subst ho;exact hE.low _ h3
  ·exact (q4w hr hk).elim
  ·obtain⟨_,o',h2,h3⟩:=qyy gw hr hρ hk
   rw [h2] at ho;simp only [Option.some.injEq] at ho;subst ho;exact hE.low _ h3
  ·exact hE.tips _ _ _ _ h1
 ·rw [hE.low j (by omega)]
  exact hR.low j hj hF
 ·rw [hE.low d (hdn d hdd)]
  exact hd d hdd
def evY {ι : Type} (Y : ι→Option (SV×ι)) (i : ι):Option (AV×ι):=match Y i with
 |some (v,j)=>some (v.ev fun _=>zy,j)
 |none=>none
theorem qps {X:Type} {f:Operand} {p:Tmp} {asg body:Code} {g:FuncId} {T:TypeId} {cs:List AV} {ι : Type} {Y : ι→Option (SV×ι)} {i0 : ι} (hit:ItC g T cs (evY Y) i0) (a8:∀ vs w,(callFunc g vs).run E.P w = .ok (.enter g vs) w) (hY:∀ i v j,Y i=some (v,j)→v.all (fun _=>false)=true) (kb n0:Nat) (cv:List SV) (hcv:∀ ρ,SV.evs ρ cv=cs) (ks:List Nat) (I:X→Conf) (sl0:List (Nat×SV)) (P : ι→X→Prop) (D:Code→X→Prop) (x0:X) (h0:P i0 x0)
  (he:EntA B.n0 C (I x0)) (hz:¬ B.dz) (dv:∀ x,(I x).sl=sl0)
  (hf:sval N sl0 f=some (.fn (.func g) [] [.bx kb 0]))
  (hkb:∀ x,lkS (I x).hp kb=some (some (.cells T cv)))
  (hr:∀ x,qca n0 ks (I x).sl (I x).hp (I x).nx=true) (h0r:(ksIn n0 ks (I x0).hp && Nat.ble B.n0 n0)=true)
  (hb:∀ i x v j,P i x→Y i=some (v,j)→RA E N n0 asg (fun F ρ C1=>RB E N F ρ n0 body (rndQ n0 (P j) D I) C1) ⟨(p,v)::(I x).sl,(I x).hp,(I x).nx⟩)
  (hn:∀ i x,Y i=none→P i x→Q .normal (I x)) (hd:∀ c x,D c x→q5x Q c (I x)):Sm E none N B (.rangeFunc f #[p] asg body) Q C:=⟨fun s hs=>by
 obtain⟨ts,S0,df⟩:=s;obtain⟨ρ0,hF0,hR0⟩:=hs;simp only at hF0 hR0;obtain⟨σ,hrg,he⟩:=he.ent;have hF1:=hF0.ren (C':=I x0) hrg;obtain⟨t,hw,hR1⟩:=he.sat hR0;clear hF0 hR0 he hrg;generalize renR σ ρ0 = ρ1 at hF1 hR1;refine qyu hw ?_;simp only [Bool.and_eq_true] at h0r;have hBn:=Nat.le_of_ble_eq_true h0r.2;have hB:=hR1.len
 have gw:∀ k∈ks,k<n0∧∃ o,zl (ρ1 k)=some o∧o<S0.length:=fun k hk=>by
  have:=List.all_eq_true.1 h0r.1 k hk;simp only [Bool.and_eq_true] at this;refine⟨kz this.1,?_⟩;have h2:=this.2;split at h2
  ·rename_i T cs hl
   have cx:hpF (I x0).hp k=some (.cells T cs):=by unfold hpF;rw [hl]
   obtain⟨o,v,h1,h3,rfl⟩:=hR1.hp.ok k _ cx;exact⟨o,by rw [h1];rfl,lt_of_getElem? h3⟩
  ·rename_i P hl
   have cx:hpF (I x0).hp k=some (.obj P):=by unfold hpF;rw [hl]
   obtain⟨o,x,h1,h3,_⟩:=hR1.hp.ok k _ cx;exact⟨o,h1,lt_of_getElem? h3⟩
  ·simp at h2
 have hdn:∀ d∈df,d<S0.length:=fun d hd=>lt_of_getElem? (hF1.dm d hd).1;have hi0:RInv B n0 S0.length ks ρ1 t df (I x0) S0:=⟨ρ1,fun _ _=>rfl,hR1,fun d hd=>(hF1.dm d hd).1,Nat.le_refl _⟩
 have hnm:∀ x,(sl0.all fun q=>q.2.all fun k=>Nat.blt k n0)=true:=fun x=>by
  have:=hr x;simp only [qca,Bool.and_eq_true,dv] at this;exact this.1.1
 have hnm:=hnm x0
 have slot:∀ {ρ : Nat→AV},(∀ k,k<n0→ρ k = ρ1 k)→SlOk ρ t sl0:=fun {ρ} hρ d v hd=>by
  rw [hR1.sl d v (by rw [dv];exact hd)];exact (qbi (fun k hk=>hρ k (kz hk)) v (List.all_eq_true.1 hnm _ (va hd))).symm
 have s4:∀ x,n0≤(I x).nx:=fun x=>by
  have:=hr x;simp only [qca,Bool.and_eq_true] at this;exact Nat.le_of_ble_eq_true this.2
 have hkb1:kb<n0∧∃ o,ρ1 kb = .bx o 0 0∧o<S0.length:=by
  have h1:=hr x0;simp only [qca,Bool.and_eq_true] at h1;have:=List.all_eq_true.1 h1.1.2 _ (va (hkb x0));have cx:hpF (I x0).hp kb=some (.cells T cv):=by unfold hpF;rw [hkb x0]
  obtain⟨o,v,h1,h3,rfl⟩:=hR1.hp.ok kb _ cx;exact⟨(gw kb (qqi this)).1,o,h1,lt_of_getElem? h3⟩
 obtain⟨hkbn,okb,hokb,hokl⟩:=hkb1;have sm:=qv (S:=S0) (df:=df) (slot fun _ _=>rfl) hf;simp only [SV.ev,SV.evs,hokb,bxAt] at sm
 have out:∀ {x S},RInv B n0 S0.length ks ρ1 t df (I x) S→S[S0.length]? = some .dfr→SatC B (I x) ⟨t,S,S0.length::df⟩:=fun {x S} hi hm=>by
  obtain⟨ρ,hρ,hR,hdd,hnS⟩:=hi.ex;refine⟨ρ,⟨fun d hd=>?_,List.nodup_cons.2 ⟨fun h=>Nat.lt_irrefl _ (hdn _ h),hF1.nd⟩,fun k hk=>(hρ k (by omega)).trans (hF1.rig k hk),Nat.le_trans hBn (s4 x),fun h=>(hz h).elim⟩,hR⟩;rcases List.mem_cons.1 hd with rfl|hd
  ·exact⟨hm,hB⟩
  ·exact⟨hdd d hd,(hF1.dm d hd).2⟩
 refine qyt (S0:=S0) hit rfl sm a8
  (fun i S=>∃ x,P i x∧RInv B n0 S0.length ks ρ1 t df (I x) S) (fun c S=>∃ x,D c x∧RInv B n0 S0.length ks ρ1 t df (I x) S) ⟨x0,h0,hi0⟩ ?_ ?_ ?_ ?_ ?_ ?_
 ·rintro i S ⟨x,_,hi⟩
  obtain⟨ρ,hρ,hR,_⟩:=hi.ex;have cx:hpF (I x).hp kb=some (.cells T cv):=by unfold hpF;rw [hkb x]
  obtain⟨o,v,h1,h3,rfl⟩:=hR.hp.ok kb _ cx;rw [hρ kb hkbn,hokb] at h1;simp only [AV.bx.injEq] at h1;obtain⟨rfl,_⟩:=h1;rw [hcv] at h3;exact h3
 ·rintro i S S' hE ⟨x,hx,hi⟩
  exact⟨x,hx,hi.ext gw (hr x) hB hdn hE⟩
 ·rintro c S S' hE ⟨x,hx,hi⟩
  exact⟨x,hx,hi.ext gw (hr x) hB hdn hE⟩
 ·rintro F own rd i u j S hF ⟨x,hx,hi⟩ hy gk hm1 tb
  obtain⟨v,hv,hu⟩:∃ v,Y i=some (v,j)∧u=v.ev fun _=>zy:=by
   unfold evY at hy;split at hy
   ·rename_i v j2 hv
    simp only [Option.some.injEq,Prod.mk.injEq] at hy;obtain⟨rfl,rfl⟩:=hy;exact⟨v,hv,rfl⟩
   ·simp at hy
  subst hu;have hva:=hY i v j hv;obtain⟨ρ,hρ,hR,hdd,hnS⟩:=hi.ex
  -- what no resource's place is
  have qcm:∀ o y,S[o]? = some y→S0.length≤o→(∀ m sz T,y≠.tip m sz T)→¬ qcp (I x).hp ρ o:=fun o y hy ho hyt ⟨k,r,hk,hl⟩=>by
   rcases SR.ok_ct (hR.hp.ok k r hk) hl with⟨T,cs,v,h1,T',cs',rfl⟩ | ⟨m,sz,T,h1⟩ | ⟨sz,T,xs,rfl⟩ | ⟨P1,rfl⟩ | ⟨T2,ys2,cs2,rfl⟩
   rotate_left 2
   ·exact (q91 (hr x) hk).elim
   ·obtain⟨_,o',h2,h3⟩:=q9p gw (hr x) hρ hk
    rw [h2] at hl;simp only [Option.some.injEq] at hl;omega
   ·exact (q4w (hr x) hk).elim
   ·obtain⟨_,o',h2,h3⟩:=qyy gw (hr x) hρ hk
    rw [h2] at hl;simp only [Option.some.injEq] at hl;omega
   ·rw [h1] at hy
    simp only [Option.some.injEq] at hy;exact hyt _ _ _ hy.symm
  have a0:=qcm _ _ gk (by omega) (fun _ _ _=>by simp);have a1:=qcm _ _ hm1 (by omega) (fun _ _ _=>by rw [hF];simp);have a2:=fun k y hk=>qcm _ _ (tb k y hk).1 (by omega) (fun m sz T e=>(tb k y hk).2 m sz T (by rw [e]));have ad:∀ d∈df,¬ qcp (I x).hp ρ d:=fun d hd ⟨k,r,hk,hl⟩=>SR.ok_dfr (hR.hp.ok k r hk) hl (hdd d hd);have l2:=lt_of_getElem? hm1
  have s1:=((hb i x v j hx hv).run S (qcp (I x).hp ρ) ρ1 rd).run ⟨put t p (v.ev fun _=>zy),S,[]⟩
   ⟨ρ,⟨nofun,List.nodup_nil,hρ,s4 x,fun _=>rfl⟩,?_⟩
  rotate_left
  ·have o6:=hR.rebase (S':=S) fun _ _=>rfl
   refine⟨fun d v hd=>?_,o6.hp,o6.own,o6.low,o6.len,fun d v hd=>?_,o6.whp⟩
   ·simp only [lkS] at hd
    cases sd:Nat.beq p d with
    |true=>
     rw [sd] at hd;simp only [cond_true,Option.some.injEq] at hd;have e:=Nat.eq_of_beq_eq_true sd;subst e hd;simp only [put];rw [qbi (f:=fun _=>false) (ρ:=fun _=>zy) (ρ':= ρ) (fun k hk=>by simp at hk) v hva]
     simp
    |false=>
     rw [sd] at hd;have e:d≠p:=fun e=>by subst e;simp at sd
     have:=o6.sl d v hd;simp only [put];rw [show Nat.beq d p=false from jb e];exact this
   ·simp only [lkS] at hd
    cases sd:Nat.beq p d with
    |true=>
     rw [sd] at hd;simp only [cond_true,Option.some.injEq] at hd;subst hd
     exact all_mono (f:=fun _=>false) (fun k hk=>by simp at hk) v hva
    |false=>
     rw [sd] at hd;exact o6.wsl d _ hd
  refine s1.mono fun e s1 ⟨C1,hq,rg⟩=>?_
  cases e with
  |normal=>
   obtain⟨ρs,hFs,hRs⟩:=rg;have hdf1:=hFs.dz trivial;have b1:s1.st[S0.length+1]? = some (F .ready none):=(hRs.low _ (by simp only;omega) a1).trans hm1;refine⟨b1,hdf1,?_⟩;have hq:=(hq (qcp C1.hp ρs)).run (s1.st.set (S0.length+1) (F .busy none)) (some rd)
   have c0:∀ o,o<S.length→¬ qcp (I x).hp ρ o→¬ qcp C1.hp ρs o:=fun o ho hn ⟨k,r,hk,hl⟩=>by
    rcases hRs.own k r hk o hl with h|h
    ·simp only at h
     omega
    ·exact hn h
   have hRb:=hRs.rebase (S':=s1.st.set (S0.length+1) (F .busy none)) fun o ho=>List.getElem?_set_ne fun e=>c0 (S0.length+1) (by omega) a1 (by rw [e];exact ho);refine (hq.run ⟨s1.t,s1.st.set (S0.length+1) (F .busy none),[]⟩ ⟨ρs,⟨nofun,List.nodup_nil,hFs.rig,hFs.le,nofun⟩,hRb⟩).mono fun e s2 ⟨C2,s6,hs2⟩=>?_;obtain⟨ρ2,hF2,gq⟩:=hs2;have o7:=hRs.len
   have keep:∀ o y,o≠S0.length+1→S[o]? = some y→¬ qcp (I x).hp ρ o→s2.st[o]? = some y:=fun o y b8 hy hn=>by
    have ho:=lt_of_getElem? hy;rw [gq.low o (by simp only [List.length_set];simp only at o7;omega) (c0 o ho hn)];simp only;rw [List.getElem?_set_ne (fun e=>b8 e.symm),hRs.low o ho hn];exact hy
   have k0:=keep _ _ (by omega) gk a0;have k2:∀ k y,own[k]? = some y→s2.st[S0.length+2+k]? = some y:=fun k y hk=>keep _ _ (by omega) (tb k y hk).1 (a2 k y hk)
   have k1:s2.st[S0.length+1]? = some (F .busy none):=by
    rw [gq.low _ (by simp only [List.length_set];simp only at o7;omega) (c0 _ (by omega) a1)];simp only;exact ke b1
   have fin:∀ x',EntA n0 C2 (I x')→RInv B n0 S0.length ks ρ1 t df (I x') s2.st:=fun x' gf=>by
    obtain⟨σ2,hrg2,he2⟩:=gf.ent;have hF3:=hF2.ren (C':=I x') hrg2;obtain⟨t3,_,hR3⟩:=he2.sat gq;have hl3:=hR3.len;simp only [List.length_set] at hl3;simp only at o7;refine⟨_,hF3.rig,⟨by rw [dv];exact slot hF3.rig,hR3.hp,fun k r hk o ho=>?_,fun j hj hnj=>?_,by omega,hR3.wsl,hR3.whp⟩,fun d hd=>?_,by omega⟩
    ·rcases hR3.own k r hk o ho with h | ⟨k',r',h,h'⟩
     ·simp only [List.length_set] at h
      exact .inl (by omega)
     ·rcases hRs.own k' r' h o h' with h | ⟨k2,r2,h2,h3⟩
      ·simp only at h
       exact .inl (by omega)
      ·exact hR.own k2 r2 h2 o h3
    ·have hj0:¬ qcp (I x).hp ρ j:=fun ⟨k',r',h,h'⟩=>by
      rcases hR.own k' r' h j h' with h|h
      ·omega
      ·exact hnj h
     have hjS:j<S.length:=by omega
     rw [← hR.low j hj hnj];obtain⟨y,hy⟩:∃ y,S[j]? = some y:=⟨_,List.getElem?_eq_getElem hjS⟩;rw [hy];exact keep j y (by omega) hy hj0
    ·exact keep d _ (by have:=hdn d hd;omega) (hdd d hd) (ad d hd)
   cases e with
   |normal=>
    obtain⟨x',e7,gf⟩:=s6
    exact⟨k0,k1,k2,x',e7,fin x' gf⟩
   |ret=>
    obtain⟨x',e7,gf⟩:=s6
    exact⟨k0,k1,k2,x',e7,fin x' gf⟩
   |exit id=>
    obtain⟨x',e7,gf⟩:=s6
    exact⟨k0,k1,k2,x',e7,fin x' gf⟩
   | _=>exact s6.elim
  | _=>exact hq.elim
 ·rintro i S hy ⟨x,hx,hi⟩ hm
  exact⟨I x,hn i x (by
   unfold evY at hy;split at hy
   ·simp at hy
   ·assumption) hx,out hi hm⟩
 ·rintro c S ⟨x,hx,hi⟩ hm
  have hq:=hd c x hx
  cases c with
  |ret=>exact q6 ⟨I x,hq,out hi hm⟩
  |exit id=>exact jg ⟨I x,hq,out hi hm⟩
  | _=>exact hq.elim⟩
theorem qkv {X:Type} {f:Operand} {p:Tmp} {asg body:Code} (text:List UInt8) (kb n0:Nat) (ks:List Nat) (I:X→Conf) (sl0:List (Nat×SV)) (P:Nat→List UInt8→X→Prop) (D:Code→X→Prop) (x0:X) (h0:P 0 text x0)
  (he:EntA B.n0 C (I x0)) (hz:¬ B.dz) (ht:text.length<4294967281) (dv:∀ x,(I x).sl=sl0)
  (hf:sval N sl0 f=some (.fn (.func 120) [] [.bx kb 0]))
  (hkb:∀ x,lkS (I x).hp kb=some (some (.cells 9 [.s text])))
  (hr:∀ x,qca n0 ks (I x).sl (I x).hp (I x).nx=true) (h0r:(ksIn n0 ks (I x0).hp && Nat.ble B.n0 n0)=true)
  (hb:∀ k rest x,P k rest x→rest≠[]→rest.length≤text.length→RA E N n0 asg (fun F ρ C1=>RB E N F ρ n0 body (rndQ n0 (P (k+1) (past 10 rest)) D I) C1) ⟨(p,qof k text rest)::(I x).sl,(I x).hp,(I x).nx⟩)
  (hn:∀ k x,P k [] x→Q .normal (I x)) (hd:∀ c x,D c x→q5x Q c (I x)):Sm E none N B (.rangeFunc f #[p] asg body) Q C:=by
 have hY:evY (fun (q:Nat×List UInt8)=>if q.2=[]∨text.length<q.2.length then none else some (qof q.1 text q.2,(q.1+1,past 10 q.2)))=qnz text:=by
  funext ⟨k,rest⟩;by_cases h:rest=[]∨text.length<rest.length
  ·simp [evY,qnz,h]
  ·simp [evY,qnz,h,zcv]
 refine qps (Y:=fun (q:Nat×List UInt8)=>if q.2=[]∨text.length<q.2.length then none else some (qof q.1 text q.2,(q.1+1,past 10 q.2))) (i0:=(0,text)) (by rw [hY];exact zd2 text ht) Tryz.call120 (fun i v j h=>?_) kb n0 [.s text] (fun _=>rfl) ks I sl0 (fun i x=>P i.1 i.2 x∧i.2.length≤text.length) D x0 ⟨h0,Nat.le_refl _⟩ he hz dv hf hkb hr h0r (fun i x v j hp h=>?_) (fun i x h hp=>?_) hd
 ·split at h
  ·simp at h
  ·simp only [Option.some.injEq,Prod.mk.injEq] at h
   obtain⟨rfl,_⟩:=h;rfl
 ·split at h
  ·simp at h
  ·rename_i b8
   simp only [Option.some.injEq,Prod.mk.injEq] at h;obtain⟨rfl,rfl⟩:=h;have hb:=hb i.1 i.2 x hp.1 (fun e=>b8 (.inl e)) hp.2;have hp2:=vo 10 i.2
   exact⟨fun S F ρ rd=>⟨fun s hs=>((hb.run S F ρ rd).run s hs).mono fun e s' ⟨C',hq,bz⟩=>⟨C',by
    cases e with
    |normal=>exact fun F'=>⟨fun S rd=>q1l ((hq F').run S rd) fun e C2 s6=>by
      cases e with
      |normal=>obtain⟨x,h1,h2⟩:=s6;exact⟨x,⟨h1,by simp only;have:=hp.2;omega⟩,h2⟩
      | _=>exact s6⟩
    | _=>exact hq,bz⟩⟩⟩
 ·split at h
  ·rename_i he
   have:i.2=[]:=he.elim id fun h=>by have:=hp.2;omega
   refine hn i.1 x ?_;rw [← this];exact hp.1
  ·simp at h
end
theorem qtg {nx:Nat} {H:Nat→Option SR} (text:qc):ko E 82 [.s text] nx H ⟨.fn (.func 120) [] [.bx nx 0],[],[(nx,some (.cells 9 [.s text]))],nx+1⟩:=fun ρ S hS=>by
 refine (quq text S _ S.length rfl rfl).mono fun r S' ⟨hr,hs⟩=>⟨upd ρ nx (.bx S.length 0 0),?_,?_⟩
 ·rw [hr]
  simp only [SV.ev,SV.evs,jq,bxAt]
 ·subst hs
  have key:∀ k r',chF [(nx,some (SR.cells 9 [.s text]))] (resF [] H) k=some r'→k=nx∧r' = .cells 9 [.s text]:=fun k r' hk=>by
   simp only [chF,lkS] at hk
   cases hb:Nat.beq nx k with
   |true=>
    rw [hb] at hk;simp only [cond_true,Option.some.injEq] at hk
    exact⟨(Nat.eq_of_beq_eq_true hb).symm,hk.symm⟩
   |false=>
    rw [hb] at hk;simp [resF,memN] at hk
  refine⟨fun k hk=>w9 _ _ (by simp only at hk;omega),⟨fun k r hk=>?_,fun k k' r r' b8 h1 h2=>?_⟩,by simp,fun j hj _=>List.getElem?_append_left hj,fun k r hk o ho=>?_⟩
  ·obtain⟨rfl,rfl⟩:=key _ _ hk
   exact⟨S.length,0,jq _ _ _,by simp [SV.evs,SV.ev],rfl⟩
  ·obtain⟨rfl,_⟩:=key _ _ h1
   obtain⟨rfl,_⟩:=key _ _ h2;exact absurd rfl b8
  ·obtain⟨rfl,_⟩:=key _ _ hk
   rw [jq] at ho;simp only [zl,Option.some.injEq] at ho;subst ho;exact .inl (Nat.le_refl _)
end Go.Proofs.YtapblfabkbdgcaaGreatDoor
namespace Go.Av
open Go Go.RowKit
def vh (hp:List (Nat×Option SR)):List (Nat×Option SR):=hp.map fun q=>(q.1,none)
def retS (P:Program) (fn:Func) (nx0:Nat) (r:SV) (s9:List (Nat×Option SR)) (nx1:Nat) (e:Exit) (C:Conf):Prop:=
 match e with
 | .normal=>(match resV P fn.ntmps C fn.results.toList with
  |some v=>v.all (fun k=>Nat.blt k C.nx)=true∧EntA nx0 ⟨[(0,v)],C.hp,C.nx⟩ ⟨[(0,r)],s9,nx1⟩
  |none=>False)
 | .ret=>(match resV P fn.ntmps C fn.results.toList with
  |some v=>v.all (fun k=>Nat.blt k C.nx)=true∧EntA nx0 ⟨[(0,v)],C.hp,C.nx⟩ ⟨[(0,r)],s9,nx1⟩
  |none=>False)
 | _=>False
theorem q6n {hp:List (Nat×Option SR)} {k:Nat} {r:SR} (h:hpF hp k=some r):memN (j7 hp) k=true:=by
 have:=va (xa h);exact List.any_eq_true.2 ⟨k,List.mem_map.2 ⟨_,this,rfl⟩,by simp⟩
theorem v8 (hp:List (Nat×Option SR)):resF (j7 hp) (hpF hp)=hpF hp:=by
 funext k;unfold resF
 cases h:memN (j7 hp) k with
 |true=>rfl
 |false=>
  cases h2:hpF hp k with
  |none=>rfl
  |some r=>rw [q6n h2] at h;simp at h
theorem qv8:∀ (hp:List (Nat×Option SR)) (k:Nat),lkS (vh hp) k=none∧lkS hp k=none∨lkS (vh hp) k=some none
 | [],_=>.inl ⟨rfl,rfl⟩
 |(i,x)::r,k=>by
  simp only [vh,List.map_cons,lkS]
  cases hb:Nat.beq i k with
  |true=>exact .inr rfl
  |false=>exact qv8 r k
theorem qem (l8 s9:List (Nat×Option SR)):chF (s9++vh l8) (hpF l8)=hpF s9:=by
 funext k;unfold chF;rw [qcy];unfold hpF
 cases h:lkS s9 k with
 |some r=>rfl
 |none=>
  simp only;rcases qv8 l8 k with⟨h1,h2⟩|h1
  ·rw [h1,h2]
  ·rw [h1]
theorem wq {E:Env} {f:FuncId} {fn:Func} {c:Code} (vs:List SV) (l8:List (Nat×Option SR)) (nx0:Nat) (r:SV) (s9:List (Nat×Option SR)) (nx1:Nat) (hf:E.P.funcs[f]? = some fn) (hb:fn.body=some c) (hn:Nat.ble vs.length fn.ntmps=true)
  (hc:okC ⟨je 0 vs,l8,nx0⟩=true) (rl:okC ⟨[(0,r)],s9,nx1⟩=true)
  (h:∀ S F ρ,numK 0 vs fun sl=>Sm E none fn.ntmps ⟨S,F,ρ,nx0,False⟩ c (retS E.P fn nx0 r s9 nx1) ⟨sl,l8,nx0⟩):ko E f vs nx0 (hpF l8) ⟨r,j7 l8,s9++vh l8,nx1⟩:=fun ρ S hS=>by
 simp only [qoi] at h;simp only [v8] at hS;have c8:(SV.evs ρ vs).length=vs.length:=by rw [km,List.length_map]
 refine qr hf hb (by rw [c8];exact Nat.le_of_ble_eq_true hn) ?_;rw [List.append_nil];simp only [okC,Bool.and_eq_true] at hc rl
 have hwhp:∀ k r,hpF l8 k=some r→k<nx0∧r.all (fun k=>Nat.blt k nx0)=true:=fun k r hk=>by
  have:=List.all_eq_true.1 hc.2 _ (va (xa hk));simp only [Bool.and_eq_true] at this;exact⟨kz this.1,this.2⟩
 have d8:SatC ⟨S,qcp l8 ρ,ρ,nx0,False⟩ ⟨je 0 vs,l8,nx0⟩ ⟨argT (SV.evs ρ vs),S,[]⟩:=by
  refine⟨ρ,⟨nofun,List.nodup_nil,fun _ _=>rfl,Nat.le_refl _,nofun⟩,⟨fun d v hd=>?_,hS,fun k r hk o ho=>.inr ⟨k,r,hk,ho⟩,fun _ _ _=>rfl,Nat.le_refl _,fun d v hd=>?_,hwhp⟩⟩
  ·obtain⟨j,h1,h2⟩:=qcz hd
   have:(SV.evs ρ vs)[j]? = some (v.ev ρ):=by rw [km,List.getElem?_map,h2];rfl
   rw [h1,Nat.zero_add];simp only [argT,List.getD,this,Option.getD_some]
  ·exact List.all_eq_true.1 hc.1 _ (va hd)
 refine ((h S (qcp l8 ρ) ρ).run _ d8).mono fun e s' ⟨C',hq,bz⟩=>?_;obtain⟨t,S',df⟩:=s';obtain⟨ρ2,g7,hR⟩:=bz;simp only at g7 hR
 have fin:(match resV E.P fn.ntmps C' fn.results.toList with
  |some v=>v.all (fun k=>Nat.blt k C'.nx)=true∧EntA nx0 ⟨[(0,v)],C'.hp,C'.nx⟩ ⟨[(0,r)],s9,nx1⟩
  |none=>False)→ARet E fn (fun r' S'=>∃ ρ',r'=r.ev ρ'∧qg5 ρ S nx0 (hpF l8) ⟨r,j7 l8,s9++vh l8,nx1⟩ ρ' S') ⟨t,S',df⟩:=fun h=>by
  split at h
  ·rename_i v hv
   obtain⟨hva,he⟩:=h;obtain⟨σ,hrg,he⟩:=he.ent;refine qg9 hR g7.dm g7.nd fun S2 gq=>?_
   have hR3:SatR S (qcp l8 ρ) ⟨[(0,v)],C'.hp,C'.nx⟩ ρ2 (fun _=>v.ev ρ2) S2:=
    ⟨fun d u hd=>by
     simp only [lkS] at hd
     cases hb:Nat.beq 0 d with
     |true=>rw [hb] at hd;simp only [cond_true,Option.some.injEq] at hd;rw [hd]
     |false=>rw [hb] at hd;simp [lkS] at hd,gq.hp,gq.own,gq.low,gq.len,fun d u hd=>by
     simp only [lkS] at hd
     cases hb:Nat.beq 0 d with
     |true=>rw [hb] at hd;simp only [cond_true,Option.some.injEq] at hd;rw [← hd];exact hva
     |false=>rw [hb] at hd;simp [lkS] at hd,gq.whp⟩
   obtain⟨t',hw,hR4⟩:=he.sat hR3
   have hrig:∀ k,k<nx0→renR σ ρ2 k = ρ k:=fun k hk=>by
    simp only [Bool.and_eq_true] at hrg;unfold renR;rw [qqr hrg.1 k hk];exact g7.rig k hk
   have hrn:nx0≤nx1:=by
    simp only [Bool.and_eq_true] at hrg;exact Nat.le_of_ble_eq_true hrg.2
   generalize renR σ ρ2 = ρ3 at hR4 hrig;have h0:t' 0=r.ev ρ3:=hR4.sl 0 r rfl;have hwk:=hw 0;rw [h0] at hwk
   let ρ':Nat→AV:=fun k=>bif Nat.ble nx1 k then ρ k else ρ3 k
   have hρ':∀ k,Nat.blt k nx1=true→ρ' k = ρ3 k:=fun k hk=>by
    show (bif Nat.ble nx1 k then ρ k else ρ3 k)=_
    have:Nat.ble nx1 k=false:=by
     cases hb:Nat.ble nx1 k with
     |false=>rfl
     |true=>have:=Nat.le_of_ble_eq_true hb;have:=kz hk;omega
    rw [this];rfl
   have hra:r.all (fun k=>Nat.blt k nx1)=true:=List.all_eq_true.1 rl.1 (0,r) (by simp);have fb:r.ev ρ'=r.ev ρ3:=qbi hρ' r hra;refine qn rfl (wu (q4v gq hv) hwk) ⟨ρ',fb.symm,?_⟩
   have hwh:∀ k r,hpF s9 k=some r→ρ' k = ρ3 k∧r.all (fun k=>Nat.blt k nx1)=true:=fun k r hk=>by
    obtain⟨g1,g2⟩:=hR4.whp k r hk;exact⟨hρ' k (qa1 g1),g2⟩
   refine⟨fun k hk=>?_,?_,hR4.len,fun j hj hn=>?_,fun k r hk o ho=>?_⟩
   ·show (bif Nat.ble nx1 k then ρ k else ρ3 k)=_
    cases hb:Nat.ble nx1 k with
    |true=>rfl
    |false=>
     rcases hk with hk|hk
     ·exact hrig k hk
     ·have:=Nat.ble_eq_true_of_le hk
      simp only at this;rw [this] at hb;simp at hb
   ·simp only [v8,qem]
    refine⟨fun k r hk=>?_,fun k k' r r' b8 h1 h2 o ho=>?_⟩
    ·obtain⟨g1,g2⟩:=hwh k r hk
     rw [g1];exact SR.ok_of g2 hρ' (hR4.hp.ok k r hk) fun _ _=>rfl
    ·rw [(hwh k r h1).1] at ho
     rw [(hwh k' r' h2).1];exact hR4.hp.sep k k' r r' b8 h1 h2 o ho
   ·simp only [v8] at hn
    exact hR4.low j hj fun ⟨k,r,hk,hl⟩=>hn k r hk hl
   ·simp only [v8,qem] at hk ⊢
    rw [(hwh k r hk).1] at ho;exact hR4.own k r hk o ho
  ·exact h.elim
 cases e with
 |normal=>exact fin hq
 |ret=>exact fin hq
 | _=>exact hq.elim
def newN:Nat→Nat→Nat→List (Nat×Nat)
 | _,_,0=>[]
 |a,b,m+1=>(a,b)::newN (a+1) (b+1) m
theorem qz7:∀ (m a b k:Nat),lkS (newN a b m) k=if a≤k∧k<a+m then some (b+(k - a)) else none
 | 0,a,b,k=>by rw [if_neg (by omega)];rfl
 |m+1,a,b,k=>by
  simp only [newN,lkS];by_cases h:a=k
  ·subst h
   simp
  ·rw [jb h,qz7 m]
   simp only [cond_false];by_cases h2:a+1≤k∧k<a+1+m
   ·rw [if_pos h2,if_pos (by omega)]
    congr 1;omega
   ·rw [if_neg h2,if_neg (by omega)]
def nmOf (σ : List (Nat×Nat)) (k:Nat):Nat:=match lkS σ k with
 |some j=>j
 |none=>0
def SR.ren (σ : List (Nat×Nat)):SR→SR
 | .cells T cs=>.cells T (SV.rens σ cs)
 | .tip sz T xs=>.tip sz T xs
 | .own sz T xs=>.own sz T xs
 | .obj P=>.obj P
 | .rows T ys cs=>.rows T ys (SV.rens σ cs)
def renO (σ : List (Nat×Nat)):Option SR→Option SR
 |some r=>some (r.ren σ)
 |none=>none
def renH (σ : List (Nat×Nat)):List (Nat×Option SR)→List (Nat×Option SR)
 | []=>[]
 |(k,r)::l=>(nmOf σ k,renO σ r)::renH σ l
def fltH (ks:List Nat):List (Nat×Option SR)→List (Nat×Option SR)
 | []=>[]
 |(k,r)::l=>bif memN ks k then (k,r)::fltH ks l else fltH ks l
def outH (ks:List Nat):List (Nat×Option SR):=ks.map fun k=>(k,none)
def qrt:List Nat→Bool
 | []=>true
 |k::r=> !memN r k && qrt r
theorem q4e (ks:List Nat):∀ (hp:List (Nat×Option SR)) (k:Nat),lkS (fltH ks hp) k=bif memN ks k then lkS hp k else none
 | [],k=>by simp only [fltH,lkS];cases memN ks k <;> rfl
 |(i,r)::l,k=>by
  have ih:=q4e ks l k;simp only [fltH];by_cases e:i=k
  ·subst e
   cases hm:memN ks i with
   |true=>simp [lkS]
   |false=>rw [hm] at ih;simp only [cond_false] at ih ⊢;exact ih
  ·cases hm:memN ks i with
   |true=>simp only [cond_true,lkS,jb e,cond_false];exact ih
   |false=>simp only [cond_false,lkS,jb e];exact ih
theorem q4b (ks:List Nat) (hp:List (Nat×Option SR)):hpF (fltH ks hp)=resF ks (hpF hp):=by
 funext k;unfold hpF resF;rw [q4e]
 cases memN ks k <;> rfl
theorem q4g {σ : List (Nat×Nat)}:∀ {hp:List (Nat×Option SR)} {j:Nat} {rr:SR},lkS (renH σ hp) j=some (some rr)→∃ k r,(k,some r)∈hp∧nmOf σ k=j∧rr=r.ren σ
 | [],j,rr,h=>by simp [renH,lkS] at h
 |(k,r)::l,j,rr,h=>by
  simp only [renH,lkS] at h
  cases hb:Nat.beq (nmOf σ k) j with
  |true=>
   rw [hb] at h;simp only [cond_true,Option.some.injEq] at h
   cases r with
   |none=>simp [renO] at h
   |some r=>
    simp only [renO,Option.some.injEq] at h
    exact⟨k,r,by simp,Nat.eq_of_beq_eq_true hb,h.symm⟩
  |false=>
   rw [hb] at h;obtain⟨k',r',h1,h2,h3⟩:=q4g h;exact⟨k',r',List.mem_cons_of_mem _ h1,h2,h3⟩
theorem qvl:∀ {hp:List (Nat×Option SR)} {k:Nat} {r:SR},qrt (j7 hp)=true→(k,some r)∈hp→hpF hp k=some r
 | [],k,r,_,h=>by simp at h
 |(i,x)::l,k,r,hd,h=>by
  simp only [j7,List.map_cons,qrt,Bool.and_eq_true] at hd;unfold hpF;simp only [lkS];rcases List.mem_cons.1 h with e|e
  ·simp only [Prod.mk.injEq] at e
   obtain⟨rfl,rfl⟩:=e;simp
  ·have b8:i≠k:=fun e'=>by
    subst e';have:memN (List.map Prod.fst l) i=true:=List.any_eq_true.2 ⟨i,List.mem_map.2 ⟨_,e,rfl⟩,by simp⟩;rw [this] at hd;simp at hd
   rw [jb b8];exact qvl hd.2 e
theorem q4f:∀ (ks:List Nat) (j:Nat),lkS (outH ks) j=bif memN ks j then some none else none
 | [],j=>rfl
 |k::r,j=>by
  have ih:=q4f r j;simp only [outH,List.map_cons,lkS,memN,List.any_cons];by_cases e:k=j
  ·subst e;simp
  ·rw [jb e,jb (fun h=>e h.symm)]
   exact ih
theorem q0d {α : Type}:∀ {l:List α} {i0 i:Nat} {v : α},l[i]? = some v→lkS (je i0 l) (i0+i)=some v
 | [],_,_,_,h=>by simp at h
 |x::r,i0,0,v,h=>by
  simp only [List.getElem?_cons_zero,Option.some.injEq] at h;subst h
  simp [je,lkS]
 |x::r,i0,i+1,v,h=>by
  simp only [je,lkS];rw [jb (by omega),show i0+(i+1)=i0+1+i by omega];exact q0d (by simpa using h)
theorem zh2 {E:Env} {f:FuncId} {vs0:List SV} {l8:List (Nat×Option SR)} {nx0:Nat} {r:SV} {s9:List (Nat×Option SR)} {nx1:Nat} (h:ko E f vs0 nx0 (hpF l8) ⟨r,j7 l8,s9++vh l8,nx1⟩)
  (σ : List (Nat×Nat)) {mq:List (Nat×Option SR)} {vs:List SV} {nx:Nat} (hl:vs.length=vs0.length) (hc:okC ⟨je 0 vs,fltH (σ.map Prod.snd) mq,nx⟩=true)
  (he:EntC σ ⟨je 0 vs,fltH (σ.map Prod.snd) mq,nx⟩ ⟨je 0 vs0,l8,nx0⟩) (rl:okC ⟨[(0,r)],s9,nx1⟩=true)
  (hk:(qrt (j7 s9) && s9.all (fun q=>(lkS (newN nx0 nx (nx1 - nx0) ++ σ) q.1).isSome) && σ.all (fun q=>Nat.blt q.1 nx0 && Nat.blt q.2 nx) && Nat.ble nx0 nx1)=true) :
  ko E f vs nx (hpF mq) ⟨r.ren (newN nx0 nx (nx1 - nx0) ++ σ),σ.map Prod.snd,renH (newN nx0 nx (nx1 - nx0) ++ σ) s9++outH (σ.map Prod.snd),nx+(nx1 - nx0)⟩:=fun ρ S hS=>by
 simp only at hS;simp only [Bool.and_eq_true] at hk;obtain⟨⟨⟨hd,cd⟩,hσ⟩,hn⟩:=hk;have hn:=Nat.le_of_ble_eq_true hn;simp only [okC,Bool.and_eq_true] at hc rl;generalize gw : σ.map Prod.snd=ks at hS hc he ⊢;obtain⟨m,hm⟩:∃ m,m=nx1 - nx0:=⟨_,rfl⟩;rw [← hm] at cd ⊢
 have hR:SatR S (qcp (fltH ks mq) ρ) ⟨je 0 vs,fltH ks mq,nx⟩ ρ (argT (SV.evs ρ vs)) S:=by
  refine⟨fun d v hd=>?_,by simp only [q4b];exact hS,fun k r hk o ho=>.inr ⟨k,r,hk,ho⟩,fun _ _ _=>rfl,Nat.le_refl _,fun d v hd=>List.all_eq_true.1 hc.1 _ (va hd),fun k r hk=>?_⟩
  ·obtain⟨j,h1,h2⟩:=qcz hd
   have:(SV.evs ρ vs)[j]? = some (v.ev ρ):=by rw [km,List.getElem?_map,h2];rfl
   rw [h1,Nat.zero_add];simp only [argT,List.getD,this,Option.getD_some]
  ·have:=List.all_eq_true.1 hc.2 _ (va (xa hk))
   simp only [Bool.and_eq_true] at this;exact⟨kz this.1,this.2⟩
 obtain⟨t',hw,ln⟩:=he.sat hR;have hrc:∀ k j,lkS σ k=some j→renR σ ρ k = ρ j:=fun k j e=>by unfold renR;rw [e]
 have hrn:∀ k,lkS σ k=none→renR σ ρ k=zy:=fun k e=>by unfold renR;rw [e]
 -- where a canonical resource lies
 have foot:∀ k r,hpF l8 k=some r→∀ o,zl (renR σ ρ k)=some o→∃ j r',resF ks (hpF mq) j=some r'∧zl (ρ j)=some o:=fun k r hk o ho=>by
  have hE:=qfr he.2.1 (xa hk);simp only [q4b] at hE;unfold entR at hE
  cases hl:lkS σ k with
  |none=>
   rw [hrn k hl] at ho
   simp [zl] at ho
  |some j=>
   rw [hrc k j hl] at ho;rw [hl] at hE
   cases hj:resF ks (hpF mq) j with
   |none=>cases r <;> (simp only [hj] at hE)
   |some r'=>exact⟨j,r',hj,ho⟩
 have hS0:SatF S (renR σ ρ) (hpF l8):=ln.hp;refine qx3 (ys:=SV.evs (renR σ ρ) vs0) (by simp [km,hl]) (fun i x y hx hy=>?_) ((h (renR σ ρ) S (by simp only [v8];exact hS0)).mono fun r' S' ⟨ρc,hr,hp⟩=>?_)
 ·have h1:=hw i
  simp only [km,List.getElem?_map] at hy hx
  cases hv:vs0[i]? with
  |none=>rw [hv] at hy;simp at hy
  |some v=>
   rw [hv] at hy;simp only [Option.map_some,Option.some.injEq] at hy;have h2:=ln.sl i v (by have:=q0d (i0:=0) hv;rwa [Nat.zero_add] at this);rw [h2,hy] at h1;have:argT (SV.evs ρ vs) i=x:=by simp only [argT,List.getD,km,List.getElem?_map,hx,Option.getD_some]
   rw [this] at h1;exact h1
 ·let ρ':Nat→AV:=fun j=>bif Nat.ble nx j && Nat.blt j (nx+m) then ρc (nx0+(j - nx)) else ρ j
  have d9:∀ j,(j<nx∨nx+m≤j)→ρ' j = ρ j:=fun j hj=>by
   show (bif Nat.ble nx j && Nat.blt j (nx+m) then ρc (nx0+(j - nx)) else ρ j) = ρ j
   have:(Nat.ble nx j && Nat.blt j (nx+m))=false:=by
    cases hb:(Nat.ble nx j && Nat.blt j (nx+m)) with
    |false=>rfl
    |true=>
     simp only [Bool.and_eq_true] at hb;have h1:=Nat.le_of_ble_eq_true hb.1;have h2:=kz hb.2;omega
   rw [this];rfl
  have m4:∀ i,i<m→ρ' (nx+i) = ρc (nx0+i):=fun i hi=>by
   show (bif Nat.ble nx (nx+i) && Nat.blt (nx+i) (nx+m) then ρc (nx0+(nx+i - nx)) else ρ (nx+i))=_
   have h1:Nat.ble nx (nx+i)=true:=Nat.ble_eq_true_of_le (by omega);have h2:Nat.blt (nx+i) (nx+m)=true:=qa1 (by omega);rw [h1,h2,show nx+i - nx=i by omega];rfl
  have hσj:∀ k j,lkS σ k=some j→k<nx0∧j<nx:=fun k j e=>by
   have:=List.all_eq_true.1 hσ _ (va e);simp only [Bool.and_eq_true] at this;exact⟨kz this.1,kz this.2⟩
  have hro:∀ k,k<nx0→ρc k=renR σ ρ k:=fun k hk=>hp.old k (.inl hk)
  have key:∀ k,k<nx1→renR (newN nx0 nx m ++ σ) ρ' k = ρc k:=fun k hk=>by
   have e:renR (newN nx0 nx m ++ σ) ρ' k=match lkS (newN nx0 nx m ++ σ) k with|some j=> ρ' j|none=>zy:=rfl
   rw [e,qcy,qz7];by_cases i7:nx0≤k
   ·rw [if_pos ⟨i7,by omega⟩]
    simp only;rw [m4 _ (by omega),show nx0+(k - nx0)=k by omega]
   ·rw [if_neg (by omega),hro k (by omega)]
    simp only
    cases hl:lkS σ k with
    |none=>rw [hrn k hl]
    |some j=>
     rw [hrc k j hl];exact d9 j (.inl (hσj k j hl).2)
  have keyj:∀ k,k<nx1→(lkS (newN nx0 nx m ++ σ) k).isSome=true→ρ' (nmOf (newN nx0 nx m ++ σ) k) = ρc k:=fun k hk hs=>by
   rw [← key k hk];unfold renR nmOf
   cases hl:lkS (newN nx0 nx m ++ σ) k with
   |none=>rw [hl] at hs;simp at hs
   |some j=>rfl
  have res:∀ j rr,chF (renH (newN nx0 nx m ++ σ) s9++outH ks) (resF ks (hpF mq)) j=some rr→∃ k r,hpF s9 k=some r∧nmOf (newN nx0 nx m ++ σ) k=j∧rr=r.ren (newN nx0 nx m ++ σ)∧ρ' j = ρc k∧r.all (fun k=>Nat.blt k nx1)=true:=fun j rr hj=>by
   unfold chF at hj;rw [qcy] at hj
   cases hl:lkS (renH (newN nx0 nx m ++ σ) s9) j with
   |some x=>
    rw [hl] at hj;simp only at hj;subst hj;obtain⟨k,r,h1,h2,h3⟩:=q4g hl;have h4:=List.all_eq_true.1 rl.2 _ h1;simp only [Bool.and_eq_true] at h4;have h5:=List.all_eq_true.1 cd _ h1;refine⟨k,r,qvl hd h1,h2,h3,?_,h4.2⟩;rw [← h2]
    exact keyj k (kz h4.1) h5
   |none=>
    rw [hl] at hj;simp only [q4f] at hj
    cases hmm:memN ks j with
    |true=>rw [hmm] at hj;simp at hj
    |false=>
     rw [hmm] at hj;simp [resF,hmm] at hj
  have hra:r.all (fun k=>Nat.blt k nx1)=true:=List.all_eq_true.1 rl.1 (0,r) (by simp);refine⟨ρ',?_,fun k hk=>d9 k hk,⟨fun j rr hj=>?_,fun j j' rr rr' b8 h1 h2 o ho=>?_⟩,hp.len,fun j hj hnj=>?_,fun j rr hj o ho=>?_⟩
  ·rw [hr]
   simp only;rw [qs9];exact (qbi (fun k hk=>key k (kz hk)) r hra).symm
  ·obtain⟨k,r0,h1,h2,rfl,h4,h5⟩:=res j rr hj
   rw [h4];have tz:=hp.sat;simp only [v8,qem] at tz;have hok:=tz.ok k r0 h1
   cases r0 with
   |cells T cs=>
    obtain⟨o,v,g1,g2,g3⟩:=hok;refine⟨o,v,g1,?_,g3⟩;rw [qdl,yv (fun k hk=>key k (kz hk)) cs h5]
    exact g2
   |tip sz T xs=>exact hok
   |own sz T xs=>exact hok
   |obj P=>exact hok
   |rows T ys cs=>
    show OwnS _ 1 T (ys++SV.evs _ (SV.rens _ cs)) _
    rw [qdl,yv (fun k hk=>key k (kz hk)) cs h5];exact hok
  ·obtain⟨k,r0,h3,h4,_,h5,_⟩:=res j rr h1
   obtain⟨k',r0',h3',h4',_,h5',_⟩:=res j' rr' h2;rw [h5] at ho;rw [h5'];have tz:=hp.sat;simp only [v8,qem] at tz;exact tz.sep k k' r0 r0' (fun e=>b8 (by rw [← h4,← h4',e])) h3 h3' o ho
  ·refine hp.fr j hj fun k r0 hk s8=>?_
   simp only [v8] at hk;obtain⟨j',r',g1,g2⟩:=foot k r0 hk j s8;exact hnj j' r' g1 g2
  ·obtain⟨k,r0,h1,h2,_,h4,_⟩:=res j rr hj
   rw [h4] at ho;have hlc:=hp.loc k r0 (by simp only [v8,qem];exact h1) o ho;rcases hlc with g | ⟨k',r',g1,g2⟩
   ·exact .inl g
   ·simp only [v8] at g1
    obtain⟨j',r'',g3,g4⟩:=foot k' r' g1 o g2;exact .inr ⟨j',r'',g3,g4⟩
def useW (vs0:List SV) (l8:List (Nat×Option SR)) (nx0:Nat) (r:SV) (s9:List (Nat×Option SR)) (nx1:Nat) (mq:List (Nat×Option SR)) (vs:List SV) (nx:Nat) (k:Ef→Prop):Prop:=
 fcP (addS [] (prsL vs0 vs)) fun a=>fcP (addS a (sigH (hpF mq) a l8)) fun σ=>
  vs.length=vs0.length∧okC ⟨je 0 vs,fltH (σ.map Prod.snd) mq,nx⟩=true∧EntC σ ⟨je 0 vs,fltH (σ.map Prod.snd) mq,nx⟩ ⟨je 0 vs0,l8,nx0⟩∧okC ⟨[(0,r)],s9,nx1⟩=true ∧
   (qrt (j7 s9) && s9.all (fun q=>(lkS (newN nx0 nx (nx1 - nx0) ++ σ) q.1).isSome) && σ.all (fun q=>Nat.blt q.1 nx0 && Nat.blt q.2 nx) && Nat.ble nx0 nx1)=true ∧
   k ⟨r.ren (newN nx0 nx (nx1 - nx0) ++ σ),σ.map Prod.snd,renH (newN nx0 nx (nx1 - nx0) ++ σ) s9++outH (σ.map Prod.snd),nx+(nx1 - nx0)⟩
theorem jk {E:Env} {f:FuncId} {vs0:List SV} {l8:List (Nat×Option SR)} {nx0:Nat} {r:SV} {s9:List (Nat×Option SR)} {nx1:Nat} (h:ko E f vs0 nx0 (hpF l8) ⟨r,j7 l8,s9++vh l8,nx1⟩) {mq:List (Nat×Option SR)} {vs:List SV} {nx:Nat} {k:Ef→Prop}
  (hw:useW vs0 l8 nx0 r s9 nx1 mq vs nx k):∃ e,ko E f vs nx (hpF mq) e∧k e:=by
 unfold useW at hw;simp only [qze] at hw;obtain⟨h1,h2,h3,h4,h5,h6⟩:=hw;exact⟨_,zh2 h _ h1 h2 h3 h4 h5,h6⟩
end Go.Av
