/- Contracts and plain facts that the closing text leans on (part 1). No condition of their own beyond those that each states. -/
import Derived.WalkKit
import Derived.Below
import Derived.RangeFuncNested
import Derived.RangeFuncCalls
import Derived.RangeFuncLeaves
import Derived.TacticsIn
import Derived.Deep.Quiet
import Derived.Sort.Grow
import Derived.WideLaws
import Derived.Sort.QuietThIn
import Derived.Laws.AppendOwn
set_option maxRecDepth 100000
set_option linter.unusedVariables false
set_option linter.unusedSimpArgs false
theorem Go.Kr{p:Prop}(h:p:=by kernel_rfl):p:=h
theorem Go.Om{p:Prop}(h:p:=by omega):p:=h
theorem Go.So{p:Prop}(h:p:=by simp;omega):p:=h
theorem Go.Sx{p:Prop}(h:p:=by simp):p:=h
open Array renaming getElem?_append→Qi,getElem?_setIfInBounds→Qj,getElem?_toList→Qy,getElem?_eq_none→Zk,ext→Zv,getD→Zz,ext'→Xa
open Int renaming le_trans→Zx
open List renaming getElem?_append_left→Qa,getElem?_append_right→Qc,getElem?_eq_getElem→Qe,mem_of_getElem?→Qf,length_append→Qh,getElem?_eq_none→Ql,getElem?_map→Qn,getElem?_set_ne→Qo,eq_nil_of_length_eq_zero→Qp,getElem?_of_mem→Qr,getElem?_drop→Qt,append_assoc→Qu,getElem?_toArray→Qx,getD→Zc,ext_getElem?→Zd,getElem?_take_of_lt→Zi,getElem?_set_self→Zl,getElem?_take→Zr,getElem?_set→Zs,mem_append→Zu
open Nat renaming lt_of_lt_of_le→Qd,le_refl→Qg,le_of_eq→Qk,le_of_ble_eq_true→Qm,beq→Qq,eq_of_beq_eq_true→Qv,blt→Qw,ne_of_lt→Qz,zero_add→Zb,blt_eq→Ze,ble→Zf,le_trans→Zg,succ_mul→Zh,add_sub_cancel_left→Zj,add_mul→Zm,mul_le_mul_right→Zn,lt_irrefl→Zo,lt_or_ge→Zp,add_zero→Zq,le_add_right→Zt,ne_of_gt→Zw,zero_le→Zy
open Option renaming map_some→Za
open Option.some renaming injEq→Qb
open Prod.mk renaming injEq→Qs
namespace Go.Av
open Go Go.RowKit
theorem cAo{P:Prop}(h:P:=by first|assumption|omega):P:=h
theorem cRa{P:Prop}(h:P:=by first|exact rfl|assumption):P:=h
theorem cAs{P:Prop}(h:P:=by first|assumption|omega|(simp;omega)):P:=h
theorem cOs{P:Prop}(h:P:=by first|omega|(simp only[List.length_append,List.length_cons,List.length_nil];omega)|(simp;omega)):P:=h
theorem cDd{P:Prop}(e:False:=by first|omega|exact h rfl|(revert h;decide)):P:=e.elim
inductive AV where
 |v (x:Value)
 |ag (cs:List AV)
 |tu (vs:List AV)
 |ifc (t:TypeId) (x:AV)
 |fn (f:Fn) (a b:List AV)
 |sl (sz:Nat) (xs:List AV) (tip:Option Nat)
 |pp (cs:List AV)
 |bx (o ver off:Nat)
 |os (o ver off len cap:Nat)
 |mp (o:Nat)
 |yd (o:Nat)
 deriving Inhabited
def AV.cells:AV->List AV
 |.ag cs=>cs
 |x=>[x]
def flat(xs:List AV):List AV:=xs.flatMap AV.cells
structure Ob where
 ver:Nat
 blk:Nat
 cap:Nat
 raw:Bool
structure Gh where
 pub:Nat->Option (List Value)
 ob:Nat->Ob
 n:Nat
def zix(G:Gh)(tip:Option Nat)(b off sz len cap:Nat):Prop:=
 ∀t,tip=some t->t<G.n∧len≠0∧len<=(G.ob t).ver∧((G.ob t).ver=len->(G.ob t).blk=b∧off=0∧cap*sz=(G.ob t).cap∧cap<=maxLen∧len<=cap)
inductive Rel (G:Gh):AV->Value->Prop
 |v (x:Value):Rel G (.v x) x
 |ag (cs:List AV) (vs:Array Value) (hl:cs.length=vs.size) (h:∀(i:Nat)(x:AV)(y:Value),cs[i]?=some x->vs[i]?=some y->Rel G x y):Rel G (.ag cs) (.agg vs)
 |tu (cs:List AV) (vs:Array Value) (hl:cs.length=vs.size) (h:∀(i:Nat)(x:AV)(y:Value),cs[i]?=some x->vs[i]?=some y->Rel G x y):Rel G (.tu cs) (.tuple vs)
 |ifc (t:TypeId) (x:AV) (y:Value) (h:Rel G x y):Rel G (.ifc t x) (.iface t y)
 |fn (f:Fn) (a b:List AV) (a' b':Array Value) (hl:a.length=a'.size) (bq:b.length=b'.size) (h:∀(i:Nat)(x:AV)(y:Value),a[i]?=some x->a'[i]?=some y->Rel G x y) (h':∀(i:Nat)(x:AV)(y:Value),b[i]?=some x->b'[i]?=some y->Rel G x y):Rel G (.fn f a b) (.func f a' b')
 |sl0 (sz:Nat) (tip:Option Nat) (base:Option Addr) (cap:Nat) (ht:∀t,tip=some t->t<G.n∧base=none∧cap=0):Rel G (.sl sz [] tip) (.slice base 0 cap)
 |sl (sz:Nat) (xs:List AV) (tip:Option Nat) (b off cap:Nat) (pub:List Value) (hp:G.pub b=some pub) (hw:∀x∈xs,x.cells.length=sz) (b9:off+(flat xs).length<=pub.length) (h:∀(i:Nat)(x:AV)(y:Value),(flat xs)[i]?=some x->pub[off+i]?=some y->Rel G x y) (ht:zix G tip b off sz xs.length cap) (s4:xs.length<=cap):Rel G (.sl sz xs tip) (.slice (some ⟨b,off,none⟩) xs.length cap)
 |pp (cs:List AV) (b off:Nat) (pub:List Value) (hp:G.pub b=some pub) (b9:off+cs.length<=pub.length) (h:∀(i:Nat)(x:AV)(y:Value),cs[i]?=some x->pub[off+i]?=some y->Rel G x y):Rel G (.pp cs) (.pointer (some ⟨b,off,none⟩))
 |bx (o ver off b:Nat) (hn:o<G.n) (hv:ver<=(G.ob o).ver) (h:(G.ob o).ver=ver->(G.ob o).blk=b):Rel G (.bx o ver off) (.pointer (some ⟨b,off,none⟩))
 |os (o ver off len b cap:Nat) (hn:o<G.n) (hv:ver<=(G.ob o).ver) (h:(G.ob o).ver=ver->(G.ob o).blk=b):Rel G (.os o ver off len cap) (.slice (some ⟨b,off,none⟩) len cap)
 |mp (o b:Nat) (hn:o<G.n) (hr:(G.ob o).raw=true) (h:(G.ob o).blk=b):Rel G (.mp o) (.map (some b))
 |yd (o b:Nat) (hn:o<G.n) (hr:(G.ob o).raw=true) (h:(G.ob o).blk=b):Rel G (.yd o) (.func (.yield b) #[] #[])
structure Gh.le (G G':Gh):Prop where
 pub:∀b vs,G.pub b=some vs->∃ext,G'.pub b=some (vs++ext)
 n:G.n<=G'.n
 ver:∀o,o<G.n->(G.ob o).ver<=(G'.ob o).ver
 same:∀o,o<G.n->(G'.ob o).ver=(G.ob o).ver->G'.ob o=G.ob o
 raw:∀o,o<G.n->(G.ob o).raw=true->G'.ob o=G.ob o
theorem Gh.le.refl(G:Gh):G.le G:=⟨λb vs h=>⟨[],by simpa using h⟩,Qg _,λ_ _=>Qg _,λ_ _ _=>rfl,λ_ _ _=>rfl⟩
theorem Gh.le.trans{A B C:Gh}(h:A.le B)(k:B.le C):A.le C:=by
 refine⟨λb vs hv=>?_,Zg h.n k.n,λo ho=>Zg (h.ver o ho) (k.ver o (Qd ho h.n)),λo ho hv=>?_,λo ho hr=>?_⟩
 .obtain⟨e,he⟩:=h.pub b vs hv
  obtain⟨e',mv⟩:=k.pub b _ he;exact⟨e++e',by simpa using mv⟩
 .have h1:=h.ver o ho
  have h2:=k.ver o (Qd ho h.n);have e1:(B.ob o).ver=(A.ob o).ver:=Om
  have e2:=h.same o ho e1;have e3:=k.same o (Qd ho h.n) Om;rw[e3,e2]
 .have e1:=h.raw o ho hr
  rw[k.raw o (Qd ho h.n) (by rw[e1];exact hr),e1]
theorem getElem?_append_of{α:Type}{l ext:List α}{i:Nat}{y:α}(h:(l++ext)[i]?=some y)(hi:i<l.length):l[i]?=some y:=by
 rwa [Qa hi]at h
theorem lt_of_getElem?{α:Type}{l:List α}{i:Nat}{x:α}(h:l[i]?=some x):i<l.length:=by
 rcases Zp i l.length with h'|h'
 .exact h'
 .simp[Ql h']at h
theorem Rel.mono{G G':Gh}(hG:G.le G'){a:AV}{v:Value}(h:Rel G a v):Rel G' a v:=by
 induction h with
 |v x=>exact .v x
 |ag cs vs hl _ ih=>exact .ag cs vs hl ih
 |tu cs vs hl _ ih=>exact .tu cs vs hl ih
 |ifc t x y _ ih=>exact .ifc t x y ih
 |fn f a b a' b' hl bq _ _ ih ih'=>exact .fn f a b a' b' hl bq ih ih'
 |sl0 sz tip base cap ht=>exact .sl0 sz tip base cap λt h=>⟨Qd (ht t h).1 hG.n,(ht t h).2⟩
 |sl sz xs tip b off cap pub hp hw b9 _ ht s4 ih=>
  obtain⟨ext,he⟩:=hG.pub b pub hp;refine .sl sz xs tip b off cap (pub++ext) he hw (by rw[Qh];omega) (λi x y hx hy=>ih i x y hx (getElem?_append_of hy (by have:=lt_of_getElem? hx;omega))) ?_ s4;intro t hte;obtain⟨h1,h0,h3,h2⟩:=ht t hte;have:=hG.ver t h1;refine⟨Qd h1 hG.n,h0,Om,λhv=>?_⟩;rw[hG.same t h1 Om]
  exact h2 Om
 |pp cs b off pub hp b9 _ ih=>
  obtain⟨ext,he⟩:=hG.pub b pub hp
  exact .pp cs b off (pub++ext) he (by rw[Qh];omega) (λi x y hx hy=>ih i x y hx (getElem?_append_of hy (by have:=lt_of_getElem? hx;omega)))
 |bx o ver off b hn hv h=>
  have:=hG.ver o hn
  exact .bx o ver off b (Qd hn hG.n) Om (λdx=>by rw[hG.same o hn Om];exact h Om)
 |os o ver off len b cap hn hv h=>
  have:=hG.ver o hn
  exact .os o ver off len b cap (Qd hn hG.n) Om (λdx=>by rw[hG.same o hn Om];exact h Om)
 |mp o b hn hr h=>
  have e:=hG.raw o hn hr
  exact .mp o b (Qd hn hG.n) (by rw[e];exact hr) (by rw[e];exact h)
 |yd o b hn hr h=>
  have e:=hG.raw o hn hr;exact .yd o b (Qd hn hG.n) (by rw[e];exact hr) (by rw[e];exact h)
def Pure(a:AV):Prop:=∀(G G':Gh)(v:Value),(∀b vs,G.pub b=some vs->∃ext,G'.pub b=some (vs++ext))->Rel G a v->Rel G' a v
theorem qw(x:Value):Pure (.v x):=λ_ _ _ _ h=>by cases h;exact .v x
theorem qpo{cs:List AV}(h:∀x∈cs,Pure x):Pure (.ag cs):=λG G' v hp hr=>by
 cases hr with
 |ag _ vs hl hr=>exact .ag _ vs hl λi x y hx hy=>h x (Qf hx) G G' y hp (hr i x y hx hy)
theorem qfl{cs:List AV}(h:∀x∈cs,Pure x):Pure (.tu cs):=λG G' v hp hr=>by
 cases hr with
 |tu _ vs hl hr=>exact .tu _ vs hl λi x y hx hy=>h x (Qf hx) G G' y hp (hr i x y hx hy)
theorem qcu{t:TypeId}{x:AV}(h:Pure x):Pure (.ifc t x):=λG G' v hp hr=>by
 cases hr with
 |ifc _ _ y hr=>exact .ifc t x y (h G G' y hp hr)
def qlv(a:AV):Prop:=∀x∈a.cells,Pure x
theorem qh8{a:AV}(h:qlv a):Pure a:=by
 cases a with
 |ag cs=>exact qpo h
 |_=>exact h _ (by simp[AV.cells])
theorem zci{xs:List AV}{x:AV}(h:x∈flat xs):∃y∈xs,x∈y.cells:=by simpa[flat]using h
theorem qc9{sz:Nat}{xs:List AV}(h:∀x∈xs,qlv x):Pure (.sl sz xs none):=λG G' v hp hr=>by
 cases hr with
 |sl0=>exact .sl0 sz none _ _ Sx
 |sl _ _ _ b off cap pub hpb hw b9 hr ht s4=>
  obtain⟨ext,he⟩:=hp b pub hpb;refine .sl sz xs none b off cap (pub++ext) he hw (by rw[Qh];omega) (λi x y hx hy=>?_) (λt ht=>by simp at ht) s4;obtain⟨z,hz,hxz⟩:=zci (Qf hx);exact h z hz x hxz G G' y hp (hr i x y hx (getElem?_append_of hy (by have:=lt_of_getElem? hx;omega)))
theorem qve{cs:List AV}(h:∀x∈cs,Pure x):Pure (.pp cs):=λG G' v hp hr=>by
 cases hr with
 |pp _ b off pub hpb b9 hr=>
  obtain⟨ext,he⟩:=hp b pub hpb;exact .pp cs b off (pub++ext) he (by rw[Qh];omega) λi x y hx hy=>h x (Qf hx) G G' y hp (hr i x y hx (getElem?_append_of hy (by have:=lt_of_getElem? hx;omega)))
inductive AObj where
 |dead
 |cells (ver:Nat) (T:TypeId) (cs:List AV)
 |tip (n sz:Nat) (T:TypeId)
  |row (ver:Nat) (T:TypeId) (cs:List AV)
  |dfr
  |loop (ls:LoopState) (pend:Option Code) (N:Nat) (t:Nat->AV) (ps:Array Tmp) (asg body:Code)
  |map (es:List MapEntry) (clock:Nat)
  |iter (c:AV) (since:Nat) (seen:Array Nat) (last:Nat)
 deriving Inhabited
def AObj.live:AObj->Prop
 |.dead=>False
 |.cells _ _ _=>True
 |.row _ _ _=>True
 |.tip n _ _=>n≠0
 |.dfr=>True
 |.loop _ _ _ _ _ _ _=>True
 |.map _ _=>True
 |.iter _ _ _ _=>True
def ObOk(B0:Nat)(G:Gh)(w:World)(o:Nat):AObj->Prop
 |.dead=>True
 |.dfr=>(G.ob o).raw=true∧B0<=(G.ob o).blk∧w.heap[(G.ob o).blk]?=some (.deferred (some []))
 |.loop ls pend N t ps asg body=>(G.ob o).raw=true∧B0<=(G.ob o).blk∧∃r:Loop,w.heap[(G.ob o).blk]?=some (.loop r)∧r.state=ls∧r.pending=pend∧r.params=ps∧r.assign=asg∧r.body=body∧r.tmps.size=N∧∀(i:Nat)(y:Value),r.tmps[i]?=some y->Rel G (t i) y
 |.map es clock=>(G.ob o).raw=true∧B0<=(G.ob o).blk∧w.heap[(G.ob o).blk]?=some (.map es.toArray clock)
 |.iter c since seen last=>(G.ob o).raw=true∧(G.ob o).ver=0∧B0<=(G.ob o).blk∧∃b,Rel G c (.map (some b))∧w.heap[(G.ob o).blk]?=some (.mapIter (some b) since seen last)
 |.cells ver T cs=>(G.ob o).raw=false∧(G.ob o).ver=ver∧B0<=(G.ob o).blk∧G.pub (G.ob o).blk=none∧∃c:Array Value,w.heap[(G.ob o).blk]?=some (.cells c T (0,0))∧cs.length=c.size∧∀(i:Nat)(x:AV)(y:Value),cs[i]?=some x->c[i]?=some y->Rel G x y
 |.row ver T cs=>(G.ob o).raw=false∧(G.ob o).ver=ver∧B0<=(G.ob o).blk∧G.pub (G.ob o).blk=none∧∃(c:Array Value)(fz:Nat×Nat),w.heap[(G.ob o).blk]?=some (.cells c T fz)∧c.size<=fz.1∧cs.length<=c.size∧∀(i:Nat)(x:AV)(y:Value),cs[i]?=some x->c[i]?=some y->Rel G x y
 |.tip n sz T=>(G.ob o).raw=false∧(G.ob o).ver=n∧(n≠0->B0<=(G.ob o).blk∧∃(c:Array Value)(vs:List Value),w.heap[(G.ob o).blk]?=some (.cells c T (0,0))∧G.pub (G.ob o).blk=some vs∧vs.length=n*sz∧c.size=(G.ob o).cap)
structure zb (B0:Nat) (w0:World) (G:Gh) (st:List AObj) (w:World):Prop where
 below:Below B0 w0 w
 hB:B0<=w.heap.size
 n:G.n=st.length
 pub:∀b vs,G.pub b=some vs->∃(c:Array Value)(T:TypeId)(fz:Nat×Nat),w.heap[b]?=some (.cells c T fz)∧∀(i:Nat)(y:Value),vs[i]?=some y->c[i]?=some y
 ob:∀o x,st[o]?=some x->ObOk B0 G w o x
 sep:∀o o' x x',o≠o'->st[o]?=some x->st[o']?=some x'->x.live->x'.live->(G.ob o).blk≠(G.ob o').blk
def RelL(G:Gh)(as:List AV)(vs:Array Value):Prop:=as.length=vs.size∧∀(i:Nat)(x:AV)(y:Value),as[i]?=some x->vs[i]?=some y->Rel G x y
theorem RelL.mono{G G':Gh}(hG:G.le G'){as:List AV}{vs:Array Value}(h:RelL G as vs):RelL G' as vs:=⟨h.1,λi x y hx hy=>(h.2 i x y hx hy).mono hG⟩
structure Env where
 P:Program
 L:Nat->World->Prop
structure qm (E:Env) (f:FuncId) (args:List AV) (st:List AObj) (R:AV->List AObj->Prop):Prop where
 run:∀(B0:Nat)(w0:World)(G:Gh)(vals:Array Value)(w:World),E.L B0 w0->zb B0 w0 G st w->RelL G args vals->
  Calls E.P f vals w λe w'=>∃(v:Value)(G':Gh)(r:AV)(st':List AObj),e=.returned v∧G.le G'∧zb B0 w0 G' st' w'∧Rel G' r v∧R r st'
theorem qm.mono{E:Env}{f:FuncId}{args:List AV}{st:List AObj}{R R':AV->List AObj->Prop}(h:qm E f args st R)(hr:∀r st',R r st'->R' r st'):qm E f args st R':=
 ⟨λB0 w0 G vals w hL hA hR=>(h.run B0 w0 G vals w hL hA hR).mono λ_ _ ⟨v,G',r,st',he,hG,hA',hr',rj⟩=>⟨v,G',r,st',he,hG,hA',hr',hr _ _ rj⟩⟩
structure AS where
 t:Nat->AV
 st:List AObj
 df:List Nat:=[]
def fw(rd:Option Nat):Fence:={Fence.wide with round:=rd}
def put(t:Nat->AV)(i:Nat)(v:AV):Nat->AV:=λj=>bif Qq j i then v else t j
def AS.put(s:AS)(d:Option Tmp)(v:AV):AS:=
 match d with
 |some d=>⟨Av.put s.t d v,s.st,s.df⟩
 |none=>s
structure Inv (B0:Nat) (w0:World) (N:Nat) (G:Gh) (s:AS) (a:Act) (w:World):Prop where
 agree:zb B0 w0 G s.st w
 defers:a.defers=s.df.map (λo=>{target:=.collected (G.ob o).blk,args:= #[]})∧∀o∈s.df,o<G.n∧(G.ob o).raw=true
 size:a.tmps.size=N
 tmps:∀(i:Nat)(y:Value),a.tmps[i]?=some y->Rel G (s.t i) y
structure AWp (E:Env) (rd:Option Nat) (N:Nat) (c:Code) (Q:Exit->AS->Prop) (s:AS):Prop where
 run:∀(B0:Nat)(w0:World)(G:Gh)(a:Act)(w:World),E.L B0 w0->Inv B0 w0 N G s a w->
  c.wpIn (fw rd) 0 E.P (λe a' w'=>∃(G':Gh)(s':AS),G.le G'∧Inv B0 w0 N G' s' a' w'∧Q e s') a w
structure AOps (E:Env) (rd:Option Nat) (N:Nat) (ops:Array Oper) (l:List Oper) (K:AS->Prop) (s:AS):Prop where
 run:∀(B0:Nat)(w0:World)(G:Gh)(a:Act)(w:World),E.L B0 w0->Inv B0 w0 N G s a w->∀Q:Exit->Act->World->Prop,
  (∀G' s' a' w',G.le G'->Inv B0 w0 N G' s' a' w'->K s'->Q .normal a' w')->wpListIn (fw rd) 0 E.P ops Q l a w
structure AOp (E:Env) (rd:Option Nat) (N:Nat) (o:Oper) (K:AS->Prop) (s:AS):Prop where
 run:∀(B0:Nat)(w0:World)(G:Gh)(a:Act)(w:World),E.L B0 w0->Inv B0 w0 N G s a w->∀(K':Act->World->Prop)(Q:Exit->Act->World->Prop),
  (∀G' s' a' w',G.le G'->Inv B0 w0 N G' s' a' w'->K s'->K' a' w')->o.wpIn (fw rd) 0 E.P a w K' Q
section
variable {E : Env} {rd : Option Nat} {N : Nat}
theorem AWp.mono{c:Code}{Q Q':Exit->AS->Prop}{s:AS}(h:AWp E rd N c Q s)(hq:∀e s,Q e s->Q' e s):AWp E rd N c Q' s:=
 ⟨λB0 w0 G a w hL hI=>wpIn_mono (h.run B0 w0 G a w hL hI) λ_ _ _ ⟨G',s',hG,u6,hQ⟩=>⟨G',s',hG,u6,hq _ _ hQ⟩⟩
theorem za{Q:Exit->AS->Prop}{s:AS}(h:Q .normal s):AWp E rd N .skip Q s:=⟨λ_ _ G _ _ _ hI=>wpIn_skip ⟨G,s,.refl G,hI,h⟩⟩
theorem wd{id:Nat}{Q:Exit->AS->Prop}{s:AS}(h:Q (.exit id) s):AWp E rd N (.exit id) Q s:=⟨λ_ _ G _ _ _ hI=>wpIn_exit ⟨G,s,.refl G,hI,h⟩⟩
theorem q7{Q:Exit->AS->Prop}{s:AS}(h:Q .ret s):AWp E rd N .ret Q s:=⟨λ_ _ G _ _ _ hI=>wpIn_ret ⟨G,s,.refl G,hI,h⟩⟩
@[reducible] def quf (K : AS → Prop) (Q : Exit → AS → Prop) : Exit → AS → Prop
 |.normal,s=>K s
 |e,s=>Q e s
theorem qp{x y:Code}{Q:Exit->AS->Prop}{s:AS}(h:AWp E rd N x (quf (AWp E rd N y Q) Q) s):AWp E rd N (.seq x y) Q s:=by
 refine⟨λB0 w0 G a w hL hI=>?_⟩;refine wpIn_seq (wpIn_mono (h.run B0 w0 G a w hL hI) ?_);rintro e a' w' ⟨G',s',hG,u6,hQ⟩
 cases e with
 |normal=>exact wpIn_mono (hQ.run B0 w0 G' a' w' hL u6) λ_ _ _ ⟨G2,s2,sw,rv,hQ2⟩=>⟨G2,s2,hG.trans sw,rv,hQ2⟩
 |_=>exact⟨G',s',hG,u6,hQ⟩
theorem zq{i j:Nat}(h:i≠j):Qq i j=false:=by
 cases hb:Qq i j with
 |false=>rfl
 |true=>exact absurd (Qv hb) h
@[reducible] def qra (id : Nat) (Q : Exit → AS → Prop) : Exit → AS → Prop
 |.exit id',s=>bif Qq id' id then Q .normal s else Q (.exit id') s
 |e,s=>Q e s
theorem zm{id:Nat}{c:Code}{Q:Exit->AS->Prop}{s:AS}(h:AWp E rd N c (qra id Q) s):AWp E rd N (.block id c) Q s:=by
 refine⟨λB0 w0 G a w hL hI=>?_⟩;refine wpIn_block (wpIn_mono (h.run B0 w0 G a w hL hI) ?_);rintro e a' w' ⟨G',s',hG,u6,hQ⟩
 cases e with
 |exit id'=>
  dsimp only[Exit.inBlock,qra]at hQ⊢;by_cases nc:id'=id
  .subst nc
   have:Qq id' id'=true:=Sx
   rw[this]at hQ;rw[if_pos rfl];exact⟨G',s',hG,u6,hQ⟩
  .have:Qq id' id=false:=zq nc
   rw[this]at hQ;rw[if_neg nc];exact⟨G',s',hG,u6,hQ⟩
 |_=>exact⟨G',s',hG,u6,hQ⟩
def qg(N:Nat)(s:AS):Operand->AV
 |.tmp i=>bif Qw i N then s.t i else .v undef
 |.const x=>.v x
 |.global g=>.v (.pointer (some ⟨g,0,none⟩))
 |.func f=>.fn (.func f) [] []
theorem Inv.eval{B0:Nat}{w0:World}{G:Gh}{s:AS}{a:Act}{w:World}(h:Inv B0 w0 N G s a w)(x:Operand):Rel G (qg N s x) (a.eval x):=by
 cases x with
 |tmp i=>
  simp only[qg,Act.eval];by_cases hi:i<N
  .have:Qw i N=true:=by simpa[Ze]using hi
   rw[this];have sc:i<a.tmps.size:=by rw[h.size];exact hi
   simp only[cond_true,Zz,sc,dite_true];exact h.tmps i _ (by simp[sc])
  .have:Qw i N=false:=by
    cases hb:Qw i N with
    |false=>rfl
    |true=>exact absurd (by simpa[Ze]using hb) hi
   rw[this];have sc:¬i<a.tmps.size:=by rw[h.size];exact hi
   simp only[cond_false,Zz,sc,dite_false]
   exact .v _
 |const x=>exact .v x
 |global g=>exact .v _
 |func f=>exact .fn _ _ _ _ _ rfl rfl Sx Sx
theorem xh(t:Nat->AV)(i:Nat)(v:AV):put t i v i=v:=by simp[put]
theorem qai(t:Nat->AV)(i j:Nat)(v:AV)(h:j≠i):put t i v j=t j:=by
 have:Qq j i=false:=zq h;simp[put,this]
theorem Inv.defers_mono{B0:Nat}{w0:World}{G G':Gh}{s:AS}{a:Act}{w:World}(h:Inv B0 w0 N G s a w)(hG:G.le G'):a.defers=s.df.map (λo=>{target:=.collected (G'.ob o).blk,args:= #[]})∧∀o∈s.df,o<G'.n∧(G'.ob o).raw=true:=by
 refine⟨?_,λo ho=>?_⟩
 .rw[h.defers.1]
  refine List.map_congr_left λo ho=>?_;obtain⟨h1,h2⟩:=h.defers.2 o ho;rw[hG.raw o h1 h2]
 .obtain⟨h1,h2⟩:=h.defers.2 o ho
  rw[hG.raw o h1 h2];exact⟨Qd h1 hG.n,h2⟩
theorem Inv.put{B0:Nat}{w0:World}{G G':Gh}{s:AS}{a:Act}{w w':World}{st':List AObj}(h:Inv B0 w0 N G s a w)(hG:G.le G')(hA:zb B0 w0 G' st' w')(d:Option Tmp){r:AV}{v:Value}(hr:Rel G' r v):
  Inv B0 w0 N G' (AS.put ⟨s.t,st',s.df⟩ d r) (a.put d v) w':=by
 have hd:=h.defers_mono hG
 cases d with
 |none=>exact⟨hA,hd,h.size,λi y hy=>(h.tmps i y hy).mono hG⟩
 |some d=>
  refine⟨hA,hd,by simp[Act.put,h.size],λi y hy=>?_⟩;simp only[AS.put,Act.put]at *;rw[Qj]at hy;by_cases hi:d=i
  .subst hi
   rw[xh];by_cases hb:d<a.tmps.size
   .simp[hb]at hy;subst hy;exact hr
   .simp[hb]at hy
  .rw[qai _ _ _ _ (Ne.symm hi)]
   rw[if_neg hi]at hy;exact(h.tmps i y hy).mono hG
theorem qqw{c:Operand}{x y:Code}{Q:Exit->AS->Prop}{s:AS}{b:Bool}(hc:qg N s c=.v (.bool b))(ht:b=true->AWp E rd N x Q s)(hf:b=false->AWp E rd N y Q s):AWp E rd N (.cond c x y) Q s:=by
 refine⟨λB0 w0 G a w hL hI=>?_⟩;have he:=hI.eval c;rw[hc]at he;have mv:a.eval c=.bool b:=by generalize a.eval c=v at he;cases he;rfl
 cases b
 .exact wpIn_cond_false mv ((hf rfl).run B0 w0 G a w hL hI)
 .exact wpIn_cond_true mv ((ht rfl).run B0 w0 G a w hL hI)
theorem qi{id:Nat}{l:List Oper}{Q:Exit->AS->Prop}{s:AS}(h:AOps E rd N l.toArray l (Q .normal) s):AWp E rd N (.region id l.toArray false) Q s:=
 ⟨λB0 w0 G a w hL hI=>wpIn_region_lit (h.run B0 w0 G a w hL hI _ λG' s' _ _ hG u6 hK=>⟨G',s',hG,u6,hK⟩)⟩
theorem qh{ops:Array Oper}{K:AS->Prop}{s:AS}(h:K s):AOps E rd N ops [] K s:=
 ⟨λ_ _ G _ _ _ hI _ hQ=>wpListIn_nil (hQ G s _ _ (.refl G) hI h)⟩
theorem qv{ops:Array Oper}{o:Oper}{rest:List Oper}{K:AS->Prop}{s:AS}(hg:o.guard=none)(h:AOp E rd N o (AOps E rd N ops rest K) s):AOps E rd N ops (o::rest) K s:=
 ⟨λB0 w0 G a w hL hI Q hQ=>wpListIn_plain hg λK' hK=>h.run B0 w0 G a w hL hI K' Q λG' _ a' w' hG u6 hA=>hK a' w' (hA.run B0 w0 G' a' w' hL u6 Q λG2 s2 a2 w2 sw=>hQ G2 s2 a2 w2 (hG.trans sw))⟩
theorem q4q{ops:Array Oper}{o oj:Oper}{rest:List Oper}{K:AS->Prop}{s:AS}{j d:Nat}{want b:Bool}(hg:o.guard=some (j,want))(hj:ops[j]?=some oj)(hd:oj.dst=some d)(hN:Qw d N=true)(hb:s.t d=.v (.bool b))
  (ht:b=want->AOp E rd N o (AOps E rd N ops rest K) s) (hf:b=(!want)->AOps E rd N ops rest K (s.put o.dst (.v undef))):AOps E rd N ops (o::rest) K s:=by
 refine⟨λB0 w0 G a w hL hI Q hQ=>?_⟩;have cn:d<a.tmps.size:=by rw[hI.size];simpa[Ze]using hN
 have hr:=hI.tmps d a.tmps[d] (by simp[cn])
 have hv:a.tmps[d]?=some (.bool b):=by
  rw[hb]at hr;have:a.tmps[d]=.bool b:=by generalize a.tmps[d]=v at hr;cases hr;rfl
  simp[cn,this]
 have hy:yielded ops a.tmps j=some b:=by simp[yielded,hj,hd,hv]
 refine wpListIn_step λK' hK=>?_;simp only[Region.wanted,hg,hy];by_cases hbw:b=want
 .rw[if_pos (by simp[hbw])]
  exact(ht hbw).run B0 w0 G a w hL hI K' Q λG' _ a' w' hG u6 hA=>hK a' w' (hA.run B0 w0 G' a' w' hL u6 Q λG2 s2 a2 w2 sw=>hQ G2 s2 a2 w2 (hG.trans sw))
 .rw[if_neg (by simp[hbw])]
  have lx:b= !want:=by cases b<;>cases want<;>simp_all
  exact⟨λ_ _=>trivial,hK _ _ ((hf lx).run B0 w0 G _ w hL (hI.put (.refl G) hI.agree o.dst (.v undef)) Q hQ)⟩
theorem qfb{o:Oper}{ρ:Operand->Value}(bv:∀c,o.op≠.defer c):o.semAt (fw rd).round ρ=execOp ρ o:=by
 cases hr:(fw rd).round with
 |none=>exact Oper.semAt_none ρ o
 |some l=>exact Oper.semAt_some l ρ o bv
theorem qih{P:Program}{f:FuncId}{args:Array Value}{w:World}{R:Ending->World->Prop}(h:Calls P f args w R):CallsIn (fw rd) (0-1) P f args w R:=by
 have h':=callsIn_wide (n:=0-1).2 h
 cases rd with
 |none=>exact h'
 |some l=>exact h'.inRound l
theorem qu{o:Oper}{K:AS->Prop}{s:AS}(bv:∀c,o.op≠.defer c)
  (h:∀(B0:Nat)(w0:World)(G:Gh)(a:Act)(w:World),E.L B0 w0->Inv B0 w0 N G s a w->∃(v:Value)(w':World)(G':Gh)(r:AV)(st':List AObj),(execOp a.eval o).run E.P w=.ok (.value v) w'∧G.le G'∧zb B0 w0 G' st' w'∧Rel G' r v∧K (AS.put ⟨s.t,st',s.df⟩ o.dst r)):AOp E rd N o K s:=by
 refine⟨λB0 w0 G a w hL hI K' Q hK=>?_⟩;obtain⟨v,w',G',r,st',hr,hG,hA,hR,hk⟩:=h B0 w0 G a w hL hI;refine⟨λ_ _=>trivial,?_⟩;rw[qfb bv,hr,Oper.uponIn_value];exact hK G' _ _ _ hG (hI.put hG hA o.dst hR) hk
theorem qpu{o:Oper}{K:AS->Prop}{s:AS}(bv:∀c,o.op≠.defer c)
  (h:∀(B0:Nat)(w0:World)(G:Gh)(a:Act)(w:World),E.L B0 w0->Inv B0 w0 N G s a w->∃(w':World)(G':Gh)(st':List AObj),(execOp a.eval o).run E.P w=.ok .skip w'∧G.le G'∧zb B0 w0 G' st' w'∧K (AS.put ⟨s.t,st',s.df⟩ o.dst (.v undef))):AOp E rd N o K s:=by
 refine⟨λB0 w0 G a w hL hI K' Q hK=>?_⟩;obtain⟨w',G',st',hr,hG,hA,hk⟩:=h B0 w0 G a w hL hI;refine⟨λ_ _=>trivial,?_⟩;rw[qfb bv,hr,Oper.uponIn_skip];exact hK G' _ _ _ hG (hI.put hG hA o.dst (.v undef)) hk
end
end Go.Av
namespace Go.Av
open Go Go.RowKit
abbrev Sv(l:List UInt8):AV:=.v (.string ⟨l.toArray⟩)
abbrev Iv(n:Int):AV:=.v (.int .i64 n)
abbrev Bv(b:Bool):AV:=.v (.bool b)
abbrev zf:AV:=.v (.slice none 0 0)
theorem qav(l:List UInt8):(⟨l.toArray⟩:ByteArray).size=l.length:=by simp[ByteArray.size]
theorem qvt(a b:List UInt8):(⟨a.toArray⟩++⟨b.toArray⟩:ByteArray)=⟨(a++b).toArray⟩:=by
 apply ByteArray.ext;simp[ByteArray.data_append]
theorem qbh(l:List UInt8)(i j:Nat):(⟨l.toArray⟩:ByteArray).extract i j=⟨((l.take j).drop i).toArray⟩:=by
 apply ByteArray.ext;simp[ByteArray.data_extract,List.drop_take]
section
variable {E : Env} {rd : Option Nat} {N : Nat} {ops : Array Oper} {K : AS → Prop} {s : AS} {rest : List Oper} {d : Option Tmp} {T : TypeId} {p : String} {af : Array Edge}
theorem Inv.evalv{B0:Nat}{w0:World}{G:Gh}{a:Act}{w:World}(h:Inv B0 w0 N G s a w){x:Operand}{v:Value}(hx:qg N s x=.v v):a.eval x=v:=by
 have:=h.eval x;rw[hx]at this;generalize a.eval x=y at this
 cases this
 rfl
theorem qj{x:Operand}(h:AOps E rd N ops rest K (s.put d (qg N s x))):AOps E rd N ops (⟨d,.assign x,T,p,af,none⟩::rest) K s:=
 qv rfl (qu nofun λ_ _ G a w _ hI=>⟨a.eval x,w,G,qg N s x,s.st,by simp[execOp],.refl G,hI.agree,hI.eval x,h⟩)
theorem ql{x:Operand}(h:AOps E rd N ops rest K (s.put d (qg N s x))):AOps E rd N ops (⟨d,.move x,T,p,af,none⟩::rest) K s:=
 qv rfl (qu nofun λ_ _ G a w _ hI=>⟨a.eval x,w,G,qg N s x,s.st,by simp[execOp],.refl G,hI.agree,hI.eval x,h⟩)
theorem jg{op:Op}{g:Option (Nat×Bool)}(r:Value)(hg:g=none)(bv:∀c,op≠.defer c)(hr:∀(ρ:Operand->Value)(w:World),(∀x v,qg N s x=.v v->ρ x=v)->(execOp ρ ⟨d,op,T,p,af,g⟩).run E.P w=.ok (.value r) w)
  (h:AOps E rd N ops rest K (s.put d (.v r))):AOps E rd N ops (⟨d,op,T,p,af,g⟩::rest) K s:=
 qv hg (qu bv λ_ _ G a w _ hI=>⟨r,w,G,.v r,s.st,hr a.eval w (λ_ _ hx=>hI.evalv hx),.refl G,hI.agree,.v r,h⟩)
theorem jw{x y:Operand}{t t':TypeId}{k:IntKind}{m n r:Int}(hx:qg N s x=.v (.int k m))(hy:qg N s y=.v (.int k n))(hr:k.wrap (m+n)=r)
  (h:AOps E rd N ops rest K (s.put d (.v (.int k r)))):AOps E rd N ops (⟨d,.binOp .add t x y t',T,p,af,none⟩::rest) K s:=
 jg _ rfl nofun (λa w he=>by rw[<-hr];simp[execOp,he _ _ hx,he _ _ hy,eqGuard_at_int,binOp,Op.intArith]) h
theorem qcj{x y:Operand}{t t':TypeId}{k:IntKind}{m n r:Int}(hx:qg N s x=.v (.int k m))(hy:qg N s y=.v (.int k n))(hr:k.wrap (m-n)=r)
  (h:AOps E rd N ops rest K (s.put d (.v (.int k r)))):AOps E rd N ops (⟨d,.binOp .sub t x y t',T,p,af,none⟩::rest) K s:=
 jg _ rfl nofun (λa w he=>by rw[<-hr];simp[execOp,he _ _ hx,he _ _ hy,eqGuard_at_int,binOp,Op.intArith]) h
theorem qyh{x y:Operand}{t t':TypeId}{k:IntKind}{m n r:Int}(hx:qg N s x=.v (.int k m))(hy:qg N s y=.v (.int k n))(hr:k.wrap (m*n)=r)
  (h:AOps E rd N ops rest K (s.put d (.v (.int k r)))):AOps E rd N ops (⟨d,.binOp .mul t x y t',T,p,af,none⟩::rest) K s:=
 jg _ rfl nofun (λa w he=>by rw[<-hr];simp[execOp,he _ _ hx,he _ _ hy,eqGuard_at_int,binOp,Op.intArith]) h
theorem zaz{x y:Operand}{t t':TypeId}{k:IntKind}{m n:Int}(hx:qg N s x=.v (.int k m))(hy:qg N s y=.v (.int k n))(hn:n≠0)
  (h:AOps E rd N ops rest K (s.put d (.v (.int k (m.tmod n))))):AOps E rd N ops (⟨d,.binOp .rem t x y t',T,p,af,none⟩::rest) K s:=
 jg _ rfl nofun (λa w he=>by simp[execOp,he _ _ hx,he _ _ hy,eqGuard_at_int,binOp,Op.intDiv,hn]) h
theorem zay{x y:Operand}{t t':TypeId}{k:IntKind}{m n r:Int}(hx:qg N s x=.v (.int k m))(hy:qg N s y=.v (.int k n))(hn:n≠0)(hr:k.wrap (m.tdiv n)=r)
  (h:AOps E rd N ops rest K (s.put d (.v (.int k r)))):AOps E rd N ops (⟨d,.binOp .quo t x y t',T,p,af,none⟩::rest) K s:=
 jg _ rfl nofun (λa w he=>by rw[<-hr];simp[execOp,he _ _ hx,he _ _ hy,eqGuard_at_int,binOp,Op.intDiv,hn]) h
def qck(op:BinOp)(k:IntKind)(x y:Int):Int:=
 match op with
 |.and=>k.wrap (BitVec.ofInt k.bits x&&& BitVec.ofInt k.bits y).toNat
 |.or=>k.wrap (BitVec.ofInt k.bits x|||BitVec.ofInt k.bits y).toNat
 |.xor=>k.wrap (BitVec.ofInt k.bits x^^^BitVec.ofInt k.bits y).toNat
 |_=>0
theorem zav{x y:Operand}{t t':TypeId}{k:IntKind}{m n r:Int}(hx:qg N s x=.v (.int k m))(hy:qg N s y=.v (.int k n))(hr:qck .and k m n=r)
  (h:AOps E rd N ops rest K (s.put d (.v (.int k r)))):AOps E rd N ops (⟨d,.binOp .and t x y t',T,p,af,none⟩::rest) K s:=
 jg _ rfl nofun (λa w he=>by rw[<-hr];simp[execOp,he _ _ hx,he _ _ hy,eqGuard_at_int,binOp_and,Op.intBits,qck]) h
theorem zei{x y:Operand}{t t':TypeId}{k:IntKind}{m n r:Int}(hx:qg N s x=.v (.int k m))(hy:qg N s y=.v (.int k n))(hr:qck .or k m n=r)
  (h:AOps E rd N ops rest K (s.put d (.v (.int k r)))):AOps E rd N ops (⟨d,.binOp .or t x y t',T,p,af,none⟩::rest) K s:=
 jg _ rfl nofun (λa w he=>by rw[<-hr];simp[execOp,he _ _ hx,he _ _ hy,eqGuard_at_int,binOp_or,Op.intBits,qck]) h
theorem za2{x y:Operand}{t t':TypeId}{k:IntKind}{m n r:Int}(hx:qg N s x=.v (.int k m))(hy:qg N s y=.v (.int k n))(hr:qck .xor k m n=r)
  (h:AOps E rd N ops rest K (s.put d (.v (.int k r)))):AOps E rd N ops (⟨d,.binOp .xor t x y t',T,p,af,none⟩::rest) K s:=
 jg _ rfl nofun (λa w he=>by rw[<-hr];simp[execOp,he _ _ hx,he _ _ hy,eqGuard_at_int,binOp_xor,Op.intBits,qck]) h
theorem za0{x y:Operand}{t t':TypeId}{k yk:IntKind}{m n r:Int}(hx:qg N s x=.v (.int k m))(hy:qg N s y=.v (.int yk n))(hn:0<=n)(hr:k.wrap (m*2^(min n.toNat k.bits))=r)
  (h:AOps E rd N ops rest K (s.put d (.v (.int k r)))):AOps E rd N ops (⟨d,.binOp .shl t x y t',T,p,af,none⟩::rest) K s:=
 jg _ rfl nofun (λa w he=>by rw[<-hr];simp[execOp,he _ _ hx,he _ _ hy,eqGuard_at_int,binOp_shl,Op.shift,show¬n<0 by omega]) h
theorem za1{x y:Operand}{t t':TypeId}{k yk:IntKind}{m n r:Int}(hx:qg N s x=.v (.int k m))(hy:qg N s y=.v (.int yk n))(hn:0<=n)(hr:m.fdiv (2^(min n.toNat k.bits))=r)
  (h:AOps E rd N ops rest K (s.put d (.v (.int k r)))):AOps E rd N ops (⟨d,.binOp .shr t x y t',T,p,af,none⟩::rest) K s:=
 jg _ rfl nofun (λa w he=>by rw[<-hr];simp[execOp,he _ _ hx,he _ _ hy,eqGuard_at_int,binOp_shr,Op.shift,show¬n<0 by omega]) h
def cmpI(op:BinOp)(m n:Int):Option Bool:=
 match op with
 |.eql=>some (decide (m=n))
 |.neq=>some (decide (¬m=n))
 |.lss=>some (decide (m<n))
 |.leq=>some (decide (m<=n))
 |.gtr=>some (decide (n<m))
 |.geq=>some (decide (n<=m))
 |_=>none
theorem zh{op:BinOp}{x y:Operand}{t t':TypeId}{k:IntKind}{m n:Int}{b:Bool}(hx:qg N s x=.v (.int k m))(hy:qg N s y=.v (.int k n))(hb:cmpI op m n=some b)
  (h:AOps E rd N ops rest K (s.put d (Bv b))):AOps E rd N ops (⟨d,.binOp op t x y t',T,p,af,none⟩::rest) K s:=
 jg _ rfl nofun (λa w he=>by
  cases op<;>simp only[cmpI,Qb,reduceCtorEq]at hb<;>subst hb<;>simp[execOp,he _ _ hx,he _ _ hy,eqGuard_at_int,binOp,Op.intCmp,<-Bool.beq_eq_decide_eq,bne]) h
def cmpS(op:BinOp)(m n:List UInt8):Option Bool:=
 match op with
 |.eql=>some (decide (m=n))
 |.neq=>some (decide (¬m=n))
 |.lss=>some (Op.bytesLess m n)
 |.leq=>some (Op.bytesLess m n||decide (m=n))
 |.gtr=>some (!(Op.bytesLess m n||decide (m=n)))
 |.geq=>some (!(Op.bytesLess m n))
 |_=>none
theorem zba(m n:List UInt8):(m==n)=decide (m=n):=by
 by_cases h:m=n
 .simp[h]
 .simp[h]
theorem j5{op:BinOp}{x y:Operand}{t t':TypeId}{m n:List UInt8}{b:Bool}(hx:qg N s x=Sv m)(hy:qg N s y=Sv n)(hb:cmpS op m n=some b)
  (h:AOps E rd N ops rest K (s.put d (Bv b))):AOps E rd N ops (⟨d,.binOp op t x y t',T,p,af,none⟩::rest) K s:=
 jg _ rfl nofun (λa w he=>by
  cases op<;>simp only[cmpS,Qb,reduceCtorEq]at hb<;>subst hb<;>simp[execOp,he _ _ hx,he _ _ hy,eqGuard_at_string,binOp,Op.stringOp,zba]) h
theorem vb{x y:Operand}{t t':TypeId}{m n:List UInt8}(hx:qg N s x=Sv m)(hy:qg N s y=Sv n)(hl:m.length+n.length<9223372036854775808)
  (h:AOps E rd N ops rest K (s.put d (Sv (m++n)))):AOps E rd N ops (⟨d,.binOp .add t x y t',T,p,af,none⟩::rest) K s:=
 jg _ rfl nofun (λa w he=>by
  simp only[execOp,he _ _ hx,he _ _ hy,eqGuard_at_string,binOp,Op.stringOp,qav,qvt,IntKind.max_i64];rw[if_neg Om]
  simp) h
theorem zaw{x y:Operand}{t t':TypeId}{m n:Bool}(hx:qg N s x=Bv m)(hy:qg N s y=Bv n)(hu:E.P.underlying t=some .bool)
  (h:AOps E rd N ops rest K (s.put d (Bv (m==n)))):AOps E rd N ops (⟨d,.binOp .eql t x y t',T,p,af,none⟩::rest) K s:=
 jg _ rfl nofun (λa w he=>by
  have hq:∀d:Nat,(Op.equalIn (d+1) t (.bool m) (.bool n)).run E.P w=.ok (m==n) w:=λd=>by simp[Op.equalIn,run_underlying hu]
  simp only[execOp,he _ _ hx,he _ _ hy,eqGuard_at_bool,binOp]
  simp[Op.equal,Op.maxDepth,hq 9999]) h
theorem zax{x y:Operand}{t t':TypeId}{m n:Bool}(hx:qg N s x=Bv m)(hy:qg N s y=Bv n)(hu:E.P.underlying t=some .bool)
  (h:AOps E rd N ops rest K (s.put d (Bv (!(m==n))))):AOps E rd N ops (⟨d,.binOp .neq t x y t',T,p,af,none⟩::rest) K s:=
 jg _ rfl nofun (λa w he=>by
  have hq:∀d:Nat,(Op.equalIn (d+1) t (.bool m) (.bool n)).run E.P w=.ok (m==n) w:=λd=>by simp[Op.equalIn,run_underlying hu]
  simp only[execOp,he _ _ hx,he _ _ hy,eqGuard_at_bool,binOp]
  simp[Op.equal,Op.maxDepth,hq 9999]) h
theorem j6{x:Operand}{t:TypeId}{m:Bool}(hx:qg N s x=Bv m)
  (h:AOps E rd N ops rest K (s.put d (Bv (!m)))):AOps E rd N ops (⟨d,.unOp .not t x,T,p,af,none⟩::rest) K s:=
 jg _ rfl nofun (λa w he=>by simp[execOp,he _ _ hx,Op.unary]) h
theorem q4o{x:Operand}{t:TypeId}{k:IntKind}{m r:Int}(hx:qg N s x=.v (.int k m))(hr:qck .xor k (if k.signed then -1 else k.max) m=r)
  (h:AOps E rd N ops rest K (s.put d (.v (.int k r)))):AOps E rd N ops (⟨d,.unOp .xor t x,T,p,af,none⟩::rest) K s:=
 jg _ rfl nofun (λa w he=>by rw[<-hr];simp[execOp,he _ _ hx,Op.unary,Op.intBits,qck]) h
theorem qsf{x:Operand}{t t':TypeId}{k k':IntKind}{m r:Int}{e:TypeDesc}(hx:qg N s x=.v (.int k m))(hs:E.P.underlying t=some e)(hd:E.P.underlying t'=some (.int k'))(hr:k'.wrap m=r)
  (h:AOps E rd N ops rest K (s.put d (.v (.int k' r)))):AOps E rd N ops (⟨d,.convert t t' x,T,p,af,none⟩::rest) K s:=
 jg _ rfl nofun (λa w he=>by rw[<-hr];simp[execOp,he _ _ hx,convert,run_underlying hs,run_underlying hd,Conv.intToInt]) h
theorem wm{x:Operand}{ts:Array TypeId}{t0:TypeId}{m:List UInt8}(hx:qg N s x=Sv m)(ht:ts[0]?=some t0)(hu:E.P.underlying t0=some .string)
  (h:AOps E rd N ops rest K (s.put d (Iv m.length))):AOps E rd N ops (⟨d,.call ⟨.builtin .len,#[x],ts⟩,T,p,af,none⟩::rest) K s:=
 jg _ rfl nofun (λa w he=>by simp[execOp,resolve,invoke,builtin,Builtin.len_,he _ _ hx,ht,run_underlying hu,goInt,qav]) h
theorem q1s{x y:Operand}{t:TypeId}{m:List UInt8}{k:IntKind}{i:Int}(hx:qg N s x=Sv m)(hy:qg N s y=.v (.int k i))(hu:E.P.underlying t=some .string)(h0:0<=i)(h1:i<m.length)
  (h:AOps E rd N ops rest K (s.put d (.v (.int .u8 ((m.getD i.toNat 0).toNat:Nat))))):AOps E rd N ops (⟨d,.index t x y,T,p,af,none⟩::rest) K s:=
 jg _ rfl nofun (λa w he=>by
  have hg:(⟨m.toArray⟩:ByteArray)[i.toNat]?=some (m.getD i.toNat 0):=by
   have hi:i.toNat<m.length:=Om
   simp only[getElem?_def,qav,hi,dite_true,Zc,Option.getD_some];rfl
  simp[execOp,Instr.index,he _ _ hx,he _ _ hy,asIntOf,run_underlying hu,h0,hg]) h
end
end Go.Av
namespace Go.Av
open Go Go.RowKit
def Gh.new(G:Gh)(ver b cap:Nat)(raw:Bool):Gh:=⟨G.pub,λo=>if o=G.n then⟨ver,b,cap,raw⟩else G.ob o,G.n+1⟩
def Gh.publish(G:Gh)(b:Nat)(vs:List Value):Gh:=⟨λk=>if k=b then some vs else G.pub k,G.ob,G.n⟩
def Gh.cut(G:Gh)(n:Nat):Gh:=⟨G.pub,G.ob,n⟩
def Gh.setOb(G:Gh)(o:Nat)(x:Ob):Gh:=⟨G.pub,λk=>if k=o then x else G.ob k,G.n⟩
theorem Gh.le_new(G:Gh)(ver b cap:Nat)(raw:Bool):G.le (G.new ver b cap raw):=by
 refine⟨λb vs h=>⟨[],by simpa[Gh.new]using h⟩,Nat.le_succ _,λo ho=>?_,λo ho _=>?_,λo ho _=>?_⟩<;>simp[Gh.new,Qz ho]
theorem Gh.le_publish(G:Gh)(b:Nat)(vs old ext:List Value)(h:G.pub b=none∨G.pub b=some old∧vs=old++ext):G.le (G.publish b vs):=by
 refine⟨λk ws hk=>?_,Qg _,λo _=>Qg _,λo _ _=>rfl,λo _ _=>rfl⟩;by_cases e:k=b
 .subst e
  rcases h with h|⟨h,rfl⟩
  .rw[h]at hk;simp at hk
  .rw[h]at hk;simp at hk;subst hk
   exact⟨ext,by simp[Gh.publish]⟩
 .exact⟨[],by simpa[Gh.publish,e]using hk⟩
theorem Gh.le_setOb(G:Gh)(o:Nat)(x:Ob)(h:(G.ob o).ver<x.ver)(hr:(G.ob o).raw=false):G.le (G.setOb o x):=by
 refine⟨λk ws hk=>⟨[],by simpa[Gh.setOb]using hk⟩,Qg _,λk _=>?_,λk _ hv=>?_,λk _ hv=>?_⟩
 .by_cases e:k=o
  .subst e;simp[Gh.setOb];omega
  .simp[Gh.setOb,e]
 .by_cases e:k=o
  .subst e;simp[Gh.setOb]at hv;omega
  .simp[Gh.setOb,e]
 .by_cases e:k=o
  .subst e;rw[hr]at hv;simp at hv
  .simp[Gh.setOb,e]
theorem Gh.le.cut{G G':Gh}(h:G.le G'):G.le (G'.cut G.n):=⟨h.pub,Qg _,h.ver,h.same,h.raw⟩
section
variable {B0 : Nat} {w0 : World} {G : Gh} {st : List AObj} {w : World}
theorem ObOk.mono{G':Gh}{w':World}{o:Nat}{x:AObj}(h:ObOk B0 G w o x)(hG:G.le G')(ho:G'.ob o=G.ob o)
  (hp:x.live->G'.pub (G.ob o).blk=G.pub (G.ob o).blk) (hw:x.live->w'.heap[(G.ob o).blk]?=w.heap[(G.ob o).blk]?):ObOk B0 G' w' o x:=by
 cases x with
 |dead=>trivial
 |dfr=>
  obtain⟨h1,h2,h3⟩:=h
  exact⟨by rw[ho];exact h1,by rw[ho];exact h2,by rw[ho,hw trivial];exact h3⟩
 |map es clock=>
  obtain⟨h1,h2,h3⟩:=h
  exact⟨by rw[ho];exact h1,by rw[ho];exact h2,by rw[ho,hw trivial];exact h3⟩
 |iter c since seen last=>
  obtain⟨h1,h0,h2,b,h3,h4⟩:=h
  exact⟨by rw[ho];exact h1,by rw[ho];exact h0,by rw[ho];exact h2,b,h3.mono hG,by rw[ho,hw trivial];exact h4⟩
 |loop ls pend N t ps asg body=>
  obtain⟨h1,h2,r,h3,h4,h5,h6,h7,h8,h9,p7⟩:=h
  exact⟨by rw[ho];exact h1,by rw[ho];exact h2,r,by rw[ho,hw trivial];exact h3,h4,h5,h6,h7,h8,h9,λi y hy=>(p7 i y hy).mono hG⟩
 |cells ver T cs=>
  obtain⟨h0,h1,h2,h3,c,h4,h5,h6⟩:=h
  refine⟨by rw[ho];exact h0,by rw[ho];exact h1,by rw[ho];exact h2,by rw[ho,hp trivial];exact h3,c,by rw[ho,hw trivial];exact h4,h5,λi x y hx hy=>(h6 i x y hx hy).mono hG⟩
 |row ver T cs=>
  obtain⟨h0,h1,h2,h3,c,fz,h4,h5,h6,h7⟩:=h
  exact⟨by rw[ho];exact h0,by rw[ho];exact h1,by rw[ho];exact h2,by rw[ho,hp trivial];exact h3,c,fz,by rw[ho,hw trivial];exact h4,h5,h6,λi x y hx hy=>(h7 i x y hx hy).mono hG⟩
 |tip n sz T=>
  obtain⟨h0,h1,h2⟩:=h;refine⟨by rw[ho];exact h0,by rw[ho];exact h1,λhn=>?_⟩;obtain⟨h3,c,vs,h4,h5,h6,h7⟩:=h2 hn;exact⟨by rw[ho];exact h3,c,vs,by rw[ho,hw hn];exact h4,by rw[ho,hp hn];exact h5,h6,by rw[ho];exact h7⟩
theorem ObOk.lt{o:Nat}{x:AObj}(h:ObOk B0 G w o x)(hx:x.live):(G.ob o).blk<w.heap.size:=by
 have key:∀{y:Obj},w.heap[(G.ob o).blk]?=some y->(G.ob o).blk<w.heap.size:=λ{y}hy=>by
  rcases Zp (G.ob o).blk w.heap.size with h'|h'
  .exact h'
  .simp[Zk h']at hy
 cases x with
 |dead=>exact hx.elim
 |dfr=>exact key h.2.2
 |map es clock=>exact key h.2.2
 |iter c since seen last=>obtain⟨_,_,_,b,_,h4⟩:=h;exact key h4
 |loop ls pend N t ps asg body=>obtain⟨_,_,r,h4,_⟩:=h;exact key h4
 |cells ver T cs=>obtain⟨_,_,_,_,c,h4,_⟩:=h;exact key h4
 |row ver T cs=>obtain⟨_,_,_,_,c,fz,h4,_⟩:=h;exact key h4
 |tip n sz T=>obtain⟨_,c,vs,h4,_⟩:=h.2.2 hx;exact key h4
theorem ObOk.ge{o:Nat}{x:AObj}(h:ObOk B0 G w o x)(hx:x.live):B0<=(G.ob o).blk:=by
 cases x with
 |dead=>exact hx.elim
 |dfr=>exact h.2.1
 |map es clock=>exact h.2.1
 |iter c since seen last=>exact h.2.2.1
 |loop ls pend N t ps asg body=>exact h.2.1
 |cells ver T cs=>exact h.2.2.1
 |row ver T cs=>exact h.2.2.1
 |tip n sz T=>exact(h.2.2 hx).1
theorem zb.pub_lt(h:zb B0 w0 G st w){b:Nat}{vs:List Value}(hb:G.pub b=some vs):b<w.heap.size:=by
 obtain⟨c,T,fz,hc,_⟩:=h.pub b vs hb;rcases Zp b w.heap.size with h'|h'
 .exact h'
 .simp[Zk h']at hc
theorem zb.frame(h:zb B0 w0 G st w){w':World}(hb:Below B0 w w')(hp:∀b vs,G.pub b=some vs->w'.heap[b]?=w.heap[b]?)
  (ho:∀o x,st[o]?=some x->x.live->w'.heap[(G.ob o).blk]?=w.heap[(G.ob o).blk]?):zb B0 w0 G st w':=by
 refine⟨h.below.trans hb,Zg h.hB hb.size,h.n,λb vs hv=>?_,λo x hx=>(h.ob o x hx).mono (.refl G) rfl (λ_=>rfl) (ho o x hx),h.sep⟩;rw[hp b vs hv];exact h.pub b vs hv
theorem zb.fresh(h:zb B0 w0 G st w){w':World}(hb:Below w.heap.size w w'):zb B0 w0 G st w':=
 h.frame (hb.mono h.hB) (λb vs hv=>hb.block b (h.pub_lt hv)) (λo x hx hl=>hb.block _ ((h.ob o x hx).lt hl))
theorem getElem?_snoc{α:Type}(l:List α)(a:α)(i:Nat):(l++[a])[i]?=if i<l.length then l[i]?else if i=l.length then some a else none:=by
 rcases Nat.lt_trichotomy i l.length with h|h|h
 .simp[h,Qa h]
 .subst h;simp
 .rw[Qc Om,if_neg Om,if_neg Om]
  exact Ql So
theorem ww(w:World)(o:Obj):(w.alloc o).heap[w.heap.size]?=some o:=by
 show(w.heap.push o)[w.heap.size]?=_
 simp
theorem yu(w:World)(o:Obj)(b:Nat)(h:b<w.heap.size):(w.alloc o).heap[b]?=w.heap[b]?:=Below.heap_alloc w o b h
theorem zb.newCells(h:zb B0 w0 G st w)(T:TypeId)(c:Array Value)(cs:List AV)(hl:cs.length=c.size)
  (hr:∀(i:Nat)(x:AV)(y:Value),cs[i]?=some x->c[i]?=some y->Rel G x y):
  zb B0 w0 (G.new 0 w.heap.size c.size false) (st++[.cells 0 T cs]) (w.alloc (.cells c T)):=by
 have d8:=G.le_new 0 w.heap.size c.size false
 have e9:∀o x,st[o]?=some x->(G.new 0 w.heap.size c.size false).ob o=G.ob o:=λo x hx=>by
  have:=lt_of_getElem? hx;have:=h.n;simp[Gh.new,show o≠G.n by omega]
 have r9:(G.new 0 w.heap.size c.size false).ob st.length=⟨0,w.heap.size,c.size,false⟩:=by simp[Gh.new,h.n]
 refine⟨h.below.alloc h.hB _,by simp;have:=h.hB;omega,by simp[Gh.new,h.n],λb vs hb=>?_,λo x hx=>?_,λo o' x x' d7 hx g9 hl bq=>?_⟩
 .rw[yu w _ b (h.pub_lt hb)];exact h.pub b vs hb
 .rw[getElem?_snoc]at hx
  by_cases ho:o<st.length
  .rw[if_pos ho]at hx
   exact(h.ob o x hx).mono d8 (e9 o x hx) (λ_=>rfl) (λhl=>yu w _ _ ((h.ob o x hx).lt hl))
  .rw[if_neg ho]at hx
   by_cases e7:o=st.length
   .subst e7
    rw[if_pos rfl]at hx;simp only[Qb]at hx;subst hx;refine⟨by rw[r9],by rw[r9],by rw[r9];exact h.hB,?_,c,by rw[r9];exact ww w _,hl,λi x y hx hy=>(hr i x y hx hy).mono d8⟩;rw[r9]
    cases hp:G.pub w.heap.size with
    |none=>exact hp
    |some vs=>exact absurd (h.pub_lt hp) (Zo _)
   .rw[if_neg e7]at hx;simp at hx
 .rw[getElem?_snoc]at hx g9
  by_cases ho:o<st.length
  .rw[if_pos ho]at hx
   by_cases dw:o'<st.length
   .rw[if_pos dw]at g9
    rw[e9 o x hx,e9 o' x' g9];exact h.sep o o' x x' d7 hx g9 hl bq
   .rw[if_neg dw]at g9
    by_cases ho3:o'=st.length
    .subst ho3
     rw[e9 o x hx,r9];have:=(h.ob o x hx).lt hl;exact Qz this
    .rw[if_neg ho3]at g9;simp at g9
  .rw[if_neg ho]at hx
   by_cases e7:o=st.length
   .subst e7
    by_cases dw:o'<st.length
    .rw[if_pos dw]at g9
     rw[e9 o' x' g9,r9];have:=(h.ob o' x' g9).lt bq;exact Zw this
    .rw[if_neg dw]at g9
     by_cases ho3:o'=st.length
     .omega
     .rw[if_neg ho3]at g9;simp at g9
   .rw[if_neg e7]at hx;simp at hx
theorem zb.newPub(h:zb B0 w0 G st w)(T:TypeId)(c:Array Value)(fz:Nat×Nat)(vs:List Value)(hv:∀(i:Nat)(y:Value),vs[i]?=some y->c[i]?=some y):
  G.le (G.publish w.heap.size vs)∧zb B0 w0 (G.publish w.heap.size vs) st (w.alloc (.cells c T fz)):=by
 have hn:G.pub w.heap.size=none:=by
  cases hp:G.pub w.heap.size with
  |none=>rfl
  |some vs=>exact absurd (h.pub_lt hp) (Zo _)
 have d8:=G.le_publish w.heap.size vs [] [] (.inl hn);refine⟨d8,h.below.alloc h.hB _,by simp;have:=h.hB;omega,h.n,λb ws hb=>?_,λo x hx=>?_,h.sep⟩
 .by_cases e:b=w.heap.size
  .subst e
   simp[Gh.publish]at hb;subst hb;exact⟨c,T,fz,ww w _,hv⟩
  .have lx:G.pub b=some ws:=by simpa[Gh.publish,e]using hb
   rw[yu w _ b (h.pub_lt lx)];exact h.pub b ws lx
 .refine(h.ob o x hx).mono d8 rfl (λhl=>?_) (λhl=>yu w _ _ ((h.ob o x hx).lt hl))
  have:=(h.ob o x hx).lt hl;simp[Gh.publish,Qz this]
theorem zb.newTip(h:zb B0 w0 G st w)(sz:Nat)(T:TypeId):zb B0 w0 (G.new 0 0 0 false) (st++[.tip 0 sz T]) w:=by
 have d8:=G.le_new 0 0 0 false
 have e9:∀o x,st[o]?=some x->(G.new 0 0 0 false).ob o=G.ob o:=λo x hx=>by
  have:=lt_of_getElem? hx;have:=h.n;simp[Gh.new,show o≠G.n by omega]
 refine⟨h.below,h.hB,by simp[Gh.new,h.n],h.pub,λo x hx=>?_,λo o' x x' d7 hx g9 hl bq=>?_⟩
 .rw[getElem?_snoc]at hx
  by_cases ho:o<st.length
  .rw[if_pos ho]at hx
   exact(h.ob o x hx).mono d8 (e9 o x hx) (λ_=>rfl) (λ_=>rfl)
  .rw[if_neg ho]at hx
   by_cases e7:o=st.length
   .subst e7
    rw[if_pos rfl]at hx;simp only[Qb]at hx;subst hx;exact⟨by simp[Gh.new,h.n],by simp[Gh.new,h.n],λhn=>absurd rfl hn⟩
   .rw[if_neg e7]at hx;simp at hx
 .rw[getElem?_snoc]at hx g9
  have key:∀o x,(if o<st.length then st[o]?else if o=st.length then some (AObj.tip 0 sz T)else none)=some x->x.live->st[o]?=some x:=λo x hx hl=>by
   by_cases ho:o<st.length
   .rwa [if_pos ho]at hx
   .rw[if_neg ho]at hx
    by_cases e7:o=st.length
    .rw[if_pos e7]at hx;simp only[Qb]at hx;subst hx;exact absurd rfl hl
    .rw[if_neg e7]at hx;simp at hx
  have h1:=key o x hx hl;have h2:=key o' x' g9 bq;rw[e9 o x h1,e9 o' x' h2];exact h.sep o o' x x' d7 h1 h2 hl bq
end
inductive Low (n:Nat):AV->Prop
 |v (x:Value):Low n (.v x)
 |ag (cs:List AV) (h:∀(i:Nat)(x:AV),cs[i]?=some x->Low n x):Low n (.ag cs)
 |tu (cs:List AV) (h:∀(i:Nat)(x:AV),cs[i]?=some x->Low n x):Low n (.tu cs)
 |ifc (t:TypeId) (x:AV) (h:Low n x):Low n (.ifc t x)
 |fn (f:Fn) (a b:List AV) (h:∀(i:Nat)(x:AV),a[i]?=some x->Low n x) (h':∀(i:Nat)(x:AV),b[i]?=some x->Low n x):Low n (.fn f a b)
 |sl (sz:Nat) (xs:List AV) (tip:Option Nat) (h:∀(i:Nat)(x:AV),(flat xs)[i]?=some x->Low n x) (ht:∀t,tip=some t->t<n):Low n (.sl sz xs tip)
 |pp (cs:List AV) (h:∀(i:Nat)(x:AV),cs[i]?=some x->Low n x):Low n (.pp cs)
 |bx (o ver off:Nat) (h:o<n):Low n (.bx o ver off)
 |os (o ver off len cap:Nat) (h:o<n):Low n (.os o ver off len cap)
 |mp (o:Nat) (h:o<n):Low n (.mp o)
 |yd (o:Nat) (h:o<n):Low n (.yd o)
theorem q5o{α β:Type}{l:List α}{m:List β}{i:Nat}{x:α}(h:l[i]?=some x)(hl:l.length<=m.length):∃y,m[i]?=some y:=
 ⟨m[i]'(Qd (lt_of_getElem? h) hl),Sx⟩
theorem wg{α β:Type}{l:List α}{m:Array β}{i:Nat}{x:α}(h:l[i]?=some x)(hl:l.length<=m.size):∃y,m[i]?=some y:=
 ⟨m[i]'(Qd (lt_of_getElem? h) hl),Sx⟩
theorem Rel.low{G:Gh}{a:AV}{v:Value}(h:Rel G a v):Low G.n a:=by
 induction h with
 |v x=>exact .v x
 |ag cs vs hl _ ih=>exact .ag cs λi x hx=>let ⟨y,hy⟩:=wg hx (Qk hl);ih i x y hx hy
 |tu cs vs hl _ ih=>exact .tu cs λi x hx=>let ⟨y,hy⟩:=wg hx (Qk hl);ih i x y hx hy
 |ifc t x y _ ih=>exact .ifc t x ih
 |fn f a b a' b' hl bq _ _ ih ih'=>exact .fn f a b (λi x hx=>let ⟨y,hy⟩:=wg hx (Qk hl);ih i x y hx hy) (λi x hx=>let ⟨y,hy⟩:=wg hx (Qk bq);ih' i x y hx hy)
 |sl0 sz tip base cap ht=>exact .sl sz [] tip (by simp[flat]) (λt h=>(ht t h).1)
 |sl sz xs tip b off cap pub hp hw b9 _ ht s4 ih=>
  refine .sl sz xs tip (λi x hx=>?_) (λt h=>(ht t h).1);have hi:=lt_of_getElem? hx
  exact ih i x _ hx (Qe Om)
 |pp cs b off pub hp b9 _ ih=>
  refine .pp cs λi x hx=>?_;have hi:=lt_of_getElem? hx
  exact ih i x _ hx (Qe Om)
 |bx o ver off b hn hv h=>exact .bx o ver off hn
 |os o ver off len b cap hn hv h=>exact .os o ver off len cap hn
 |mp o b hn hr h=>exact .mp o hn
 |yd o b hn hr h=>exact .yd o hn
theorem Rel.cut{G:Gh}{n:Nat}{a:AV}{v:Value}(h:Rel G a v)(hl:Low n a):Rel (G.cut n) a v:=by
 induction h with
 |v x=>exact .v x
 |ag cs vs bq _ ih=>cases hl with|ag _ hx=>exact .ag cs vs bq λi x y h1 h2=>ih i x y h1 h2 (hx i x h1)
 |tu cs vs bq _ ih=>cases hl with|tu _ hx=>exact .tu cs vs bq λi x y h1 h2=>ih i x y h1 h2 (hx i x h1)
 |ifc t x y _ ih=>cases hl with|ifc _ _ hx=>exact .ifc t x y (ih hx)
 |fn f a b a' b' h1 h2 _ _ ih ih'=>cases hl with|fn _ _ _ hx g9=>exact .fn f a b a' b' h1 h2 (λi x y g1 g2=>ih i x y g1 g2 (hx i x g1)) (λi x y g1 g2=>ih' i x y g1 g2 (g9 i x g1))
 |sl0 sz tip base cap ht=>cases hl with|sl _ _ _ hx g9=>exact .sl0 sz tip base cap λt h=>⟨g9 t h,(ht t h).2⟩
 |sl sz xs tip b off cap pub hp hw b9 _ ht s4 ih=>
  cases hl with|sl _ _ _ hx g9=>exact .sl sz xs tip b off cap pub hp hw b9 (λi x y g1 g2=>ih i x y g1 g2 (hx i x g1)) (λt h=>⟨g9 t h,(ht t h).2⟩) s4
 |pp cs b off pub hp b9 _ ih=>cases hl with|pp _ hx=>exact .pp cs b off pub hp b9 λi x y g1 g2=>ih i x y g1 g2 (hx i x g1)
 |bx o ver off b hn hv h=>cases hl with|bx _ _ _ hx=>exact .bx o ver off b hx hv h
 |os o ver off len b cap hn hv h=>cases hl with|os _ _ _ _ _ hx=>exact .os o ver off len b cap hx hv h
 |mp o b hn hr h=>cases hl with|mp _ hx=>exact .mp o b hx hr h
 |yd o b hn hr h=>cases hl with|yd _ hx=>exact .yd o b hx hr h
def Cut(n:Nat)(a:AV):Prop:=∀(G:Gh)(v:Value),Rel G a v->Rel (G.cut n) a v
theorem qdz{n:Nat}{a:AV}(h:Low n a):Cut n a:=λ_ _ hr=>hr.cut h
theorem q2b{n:Nat}{a:AV}(h:Pure a):Cut n a:=λG v hr=>h G _ v (λb vs hb=>⟨[],by simpa[Gh.cut]using hb⟩) hr
def qic(n:Nat):AObj->Prop
 |.cells _ _ cs=>∀x∈cs,Cut n x
 |.row _ _ cs=>∀x∈cs,Cut n x
 |.loop _ _ N t _ _ _=>∀i,i<N->Cut n (t i)
 |.iter c _ _ _=>Cut n c
 |_=>True
section
variable {B0 : Nat} {w0 : World} {G : Gh} {st : List AObj} {w : World}
theorem ObOk.cut{o n:Nat}{x:AObj}(h:ObOk B0 G w o x)(hx:qic n x):ObOk B0 (G.cut n) w o x:=by
 cases x with
 |dead=>trivial
 |cells ver T cs=>
  obtain⟨h0,h1,h2,h3,c,h4,h5,h6⟩:=h
  exact⟨h0,h1,h2,h3,c,h4,h5,λi x y g9 hy=>hx x (Qf g9) G y (h6 i x y g9 hy)⟩
 |row ver T cs=>
  obtain⟨h0,h1,h2,h3,c,fz,h4,h5,h6,h7⟩:=h
  exact⟨h0,h1,h2,h3,c,fz,h4,h5,h6,λi x y g9 hy=>hx x (Qf g9) G y (h7 i x y g9 hy)⟩
 |tip n sz T=>exact h
 |dfr=>exact h
 |map es clock=>exact h
 |iter c since seen last=>
  obtain⟨h1,h0,h2,b,h3,h4⟩:=h
  exact⟨h1,h0,h2,b,hx G _ h3,h4⟩
 |loop ls pend N t ps asg body=>
  obtain⟨h1,h2,r,h3,h4,h5,h6,h7,h8,h9,p7⟩:=h;exact⟨h1,h2,r,h3,h4,h5,h6,h7,h8,h9,λi y hy=>hx i (by have:=(Array.getElem?_eq_some_iff.1 hy).1;omega) G y (p7 i y hy)⟩
theorem zb.cutOb(h:zb B0 w0 G st w){o:Nat}{x:AObj}(hx:st[o]?=some x):qic st.length x:=by
 cases x with
 |cells ver T cs=>
  intro x hm;obtain⟨i,hi⟩:=Qr hm;obtain⟨_,_,_,_,c,_,h5,h6⟩:=h.ob o _ hx;obtain⟨y,hy⟩:=wg hi (Qk h5);have:=(h6 i x y hi hy).low;rw[h.n]at this
  exact qdz this
 |row ver T cs=>
  intro x hm;obtain⟨i,hi⟩:=Qr hm;obtain⟨_,_,_,_,c,fz,_,_,h5,h6⟩:=h.ob o _ hx;obtain⟨y,hy⟩:=wg hi h5;have:=(h6 i x y hi hy).low;rw[h.n]at this
  exact qdz this
 |loop ls pend N t ps asg body=>
  intro i hi;obtain⟨_,_,r,_,_,_,_,_,_,h9,p7⟩:=h.ob o _ hx;have:=(p7 i r.tmps[i] (by simp[h9,hi])).low;rw[h.n]at this
  exact qdz this
 |iter c since seen last=>
  obtain⟨_,_,_,b,h3,_⟩:=h.ob o _ hx;have:=h3.low;rw[h.n]at this
  exact qdz this
 |_=>trivial
theorem zb.drop{ext:List AObj}(h:zb B0 w0 G (st++ext) w)(hc:∀(o:Nat)(x:AObj),st[o]?=some x->qic st.length x):zb B0 w0 (G.cut st.length) st w:=by
 have d8:∀{o x},st[o]?=some x->(st++ext)[o]?=some x:=λ{o x}hx=>by rw[Qa (lt_of_getElem? hx)];exact hx
 exact⟨h.below,h.hB,rfl,h.pub,λo x hx=>(h.ob o x (d8 hx)).cut (hc o x hx),λo o' x x' d7 hx g9=>h.sep o o' x x' d7 (d8 hx) (d8 g9)⟩
end
theorem q61{E:Env}{f:FuncId}{args:List AV}{st:List AObj}{R:AV->List AObj->Prop}
  (h:qm E f args st λr st2=>∃st1 ext,st2=st1++ext∧st1.length=st.length∧(∀(o:Nat)(x:AObj),st1[o]?=some x->st[o]?=some x∨qic st.length x)∧Cut st.length r∧R r st1):qm E f args st R:=by
 refine⟨λB0 w0 G vals w hL hA hR=>?_⟩;refine(h.run B0 w0 G vals w hL hA hR).mono ?_;rintro e w' ⟨v,G',r,st2,he,hG,hA',hr,st1,ext,rfl,hl,hc,hcr,hRR⟩;have d8:=hG.cut;rw[hA.n]at d8;refine⟨v,G'.cut st.length,r,st1,he,d8,?_,hcr G' v hr,hRR⟩;rw[<-hl]at hc⊢;refine hA'.drop λo x hx=>?_;rcases hc o x hx with h'|h'
 .rw[hl];exact hA.cutOb h'
 .exact h'
theorem ze{E:Env}{f:FuncId}{args:List AV}{st:List AObj}{r0:AV}(hp:Pure r0)
  (h:qm E f args st λr st2=>r=r0∧∃ext,st2=st++ext):qm E f args st λr st'=>r=r0∧st'=st:=
 q61 (h.mono λr st2 ⟨hr,ext,he⟩=>⟨st,ext,he,rfl,λ_ _ hx=>.inl hx,by rw[hr];exact q2b hp,hr,rfl⟩)
end Go.Av
namespace Go.Av
open Go Go.RowKit
def argT(args:List AV):Nat->AV:=λi=>args.getD i (.v undef)
section
variable {E : Env}
structure ARet (E:Env) (fn:Func) (R:AV->List AObj->Prop) (s:AS):Prop where
 run:∀(B0:Nat)(w0:World)(G:Gh)(a:Act)(w:World),E.L B0 w0->Inv B0 w0 fn.ntmps G s a w->∀R2:Ending->World->Prop,
  (∀(v:Value)(G':Gh)(r:AV)(st':List AObj)(w':World),G.le G'->zb B0 w0 G' st' w'->Rel G' r v->R r st'->R2 (.returned v) w')->
  LeavesInM (fw none) 0 E.P fn a.tmps R2 a.defers .returning w
structure ARes (E:Env) (fn:Func) (s:AS) (r:AV):Prop where
 run:∀(B0:Nat)(w0:World)(G:Gh)(a:Act)(w:World),E.L B0 w0->Inv B0 w0 fn.ntmps G s a w->∃v,(results fn a.tmps).run E.P w=.ok v w∧Rel G r v
@[reducible] def retA (E : Env) (fn : Func) (R : AV → List AObj → Prop) : Exit → AS → Prop
 |.normal,s=>ARet E fn R s
 |.ret,s=>ARet E fn R s
 |_,_=>False
theorem qq{f:FuncId}{fn:Func}{c:Code}{args:List AV}{st:List AObj}{R:AV->List AObj->Prop}(hf:E.P.funcs[f]?=some fn)(hb:fn.body=some c)(hn:args.length<=fn.ntmps)
  (h:AWp E none fn.ntmps c (retA E fn R) ⟨argT args,st++[],[]⟩):qm E f args st R:=by
 refine⟨λB0 w0 G vals w hL hA hR=>?_⟩;refine callsIn_wide (n:=0).1 (callsIn_of_wp_marks hf hb trivial (wpIn_mono (h.run B0 w0 G _ w hL ⟨by simpa using hA,⟨rfl,nofun⟩,?_,λi y hy=>?_⟩) ?_))
 .simp;have:=hR.1;omega
 .simp only at hy
  simp only[argT];rw[Qi]at hy;by_cases hi:i<vals.size
  .rw[if_pos hi]at hy
   have sc:i<args.length:=by rw[hR.1];exact hi
   have hx:args[i]?=some args[i]:=Qe sc;rw[Zc,hx];exact hR.2 i _ y hx hy
  .rw[if_neg hi]at hy
   have sc:args.length<=i:=by rw[hR.1];omega
   rw[Zc,Ql sc];rw[Array.getElem?_replicate]at hy;split at hy
   .simp only[Qb]at hy;subst hy;exact .v _
   .simp at hy
 .rintro e a' w' ⟨G',s',hG,u6,hQ⟩
  cases e with
  |normal=>exact hQ.run B0 w0 G' a' w' hL u6 _ λv G2 r st' _ h1 h2 h3 h4=>⟨v,G2,r,st',rfl,hG.trans h1,h2,h3,h4⟩
  |ret=>exact hQ.run B0 w0 G' a' w' hL u6 _ λv G2 r st' _ h1 h2 h3 h4=>⟨v,G2,r,st',rfl,hG.trans h1,h2,h3,h4⟩
  |_=>exact hQ.elim
theorem Inv.rd{B0:Nat}{w0:World}{N:Nat}{G:Gh}{s:AS}{a:Act}{w:World}(h:Inv B0 w0 N G s a w)(t:Tmp):Rel G (qg N s (.tmp t)) (a.tmps.getD t undef):=h.eval (.tmp t)
theorem qo{fn:Func}{R:AV->List AObj->Prop}{s:AS}{r:AV}(hd:s.df=[])(hr:ARes E fn s r)(h:R r s.st):ARet E fn R s:=by
 refine⟨λB0 w0 G a w hL hI R2 hR=>?_⟩;obtain⟨v,a8,m8⟩:=hr.run B0 w0 G a w hL hI;have e:a.defers=[]:=by rw[hI.defers.1,hd];rfl
 rw[e];exact⟨v,a8,hR v G r s.st w (.refl G) hI.agree m8 h⟩
theorem zb.takeDfr{B0:Nat}{w0:World}{G:Gh}{st:List AObj}{w:World}{o:Nat}(h:zb B0 w0 G st w)(ho:st[o]?=some .dfr):
  ∃w',(Instr.takeDeferred (G.ob o).blk).run E.P w=.ok [] w'∧zb B0 w0 G (st.set o .dead) w':=by
 obtain⟨h1,h2,h3⟩:=h.ob o _ ho;refine⟨{w with heap:=w.heap.setIfInBounds (G.ob o).blk (.deferred none)},by simp[Instr.takeDeferred,getObj,setObj,Sem.run,h3],?_⟩
 have p9:∀k,k≠(G.ob o).blk->({w with heap:=w.heap.setIfInBounds (G.ob o).blk (.deferred none)}:World).heap[k]?=w.heap[k]?:=λk hk=>by
  simp only[Qj];rw[if_neg (Ne.symm hk)]
 have mj:∀(k:Nat)(x:AObj),(st.set o .dead)[k]?=some x->(x=.dead)∨(k≠o∧st[k]?=some x):=λk x hx=>by
  by_cases e:k=o
  .subst e
   rw[Zs]at hx;rw[if_pos rfl]at hx;split at hx
   .exact .inl (by simpa using hx.symm)
   .simp at hx
  .rw[Qo (Ne.symm e)]at hx
   exact .inr ⟨e,hx⟩
 refine⟨h.below.trans ⟨rfl,rfl,rfl,Sx,λk hk=>p9 k Om⟩,by simpa using h.hB,by simp[h.n],λb vs hb=>?_,λk x hx=>?_,λk k' x x' d7 hx g9 hl bq=>?_⟩
 .obtain⟨c,T,fz,hc,hv⟩:=h.pub b vs hb
  refine⟨c,T,fz,?_,hv⟩;rw[p9 b (λe=>by rw[e,h3]at hc;simp at hc)];exact hc
 .rcases mj k x hx with rfl |⟨d7,hx⟩
  .trivial
  .exact(h.ob k x hx).mono (.refl G) rfl (λ_=>rfl) (λhl=>p9 _ (h.sep k o x _ d7 hx ho hl trivial))
 .rcases mj k x hx with rfl |⟨_,hx⟩
  .exact hl.elim
  .rcases mj k' x' g9 with rfl |⟨_,g9⟩
   .exact bq.elim
   .exact h.sep k k' x x' d7 hx g9 hl bq
theorem qnw{fn:Func}{R:AV->List AObj->Prop}{s:AS}{o:Nat}{ds:List Nat}(hd:s.df=o::ds)(ho:s.st[o]?=some .dfr)(h:ARet E fn R ⟨s.t,s.st.set o .dead,ds⟩):ARet E fn R s:=by
 refine⟨λB0 w0 G a w hL hI R2 hR=>?_⟩;obtain⟨w',a8,hA⟩:=hI.agree.takeDfr (E:=E) ho;have e:=hI.defers.1;rw[hd]at e;rw[e];have i5:=hI.defers.2;rw[hd]at i5;refine⟨Sx,.inl ⟨_,w',rfl,a8,?_⟩⟩;exact h.run B0 w0 G {tmps:=a.tmps,defers:=ds.map (λo=>{target:=.collected (G.ob o).blk,args:= #[]})} w' hL ⟨hA,⟨rfl,λk hk=>i5 k (List.mem_cons_of_mem _ hk)⟩,hI.size,hI.tmps⟩ R2 hR
theorem qbe{fn:Func}{s:AS}(hr:fn.results= #[]):ARes E fn s (.tu []):=
 ⟨λ_ _ G a w _ _=>⟨_,results_none hr a.tmps E.P w,.tu [] #[] rfl Sx⟩⟩
theorem zt{fn:Func}{s:AS}{t:Tmp}(hr:fn.results= #[.tmp t]):ARes E fn s (qg fn.ntmps s (.tmp t)):=
 ⟨λ_ _ G a w _ hI=>⟨_,results_tmp hr a.tmps E.P w,hI.rd t⟩⟩
theorem qgr{G:Gh}{x y:AV}{v u:Value}(h1:Rel G x v)(h2:Rel G y u):Rel G (.tu [x,y]) (.tuple #[v,u]):=
 .tu _ _ rfl λi x' y' hx hy=>by
  match i with
  |0=>simp at hx hy;subst hx;subst hy;exact h1
  |1=>simp at hx hy;subst hx;subst hy;exact h2
  |i+2=>simp at hx
theorem qpp{G:Gh}{x y z:AV}{v u t:Value}(h1:Rel G x v)(h2:Rel G y u)(h3:Rel G z t):Rel G (.tu [x,y,z]) (.tuple #[v,u,t]):=
 .tu _ _ rfl λi x' y' hx hy=>by
  match i with
  |0=>simp at hx hy;subst hx;subst hy;exact h1
  |1=>simp at hx hy;subst hx;subst hy;exact h2
  |2=>simp at hx hy;subst hx;subst hy;exact h3
  |i+3=>simp at hx
theorem wz{fn:Func}{s:AS}{t u:Tmp}(hr:fn.results= #[.tmp t,.tmp u]):ARes E fn s (.tu [qg fn.ntmps s (.tmp t),qg fn.ntmps s (.tmp u)]):=
 ⟨λ_ _ G a w _ hI=>⟨_,results_tmp2 hr a.tmps E.P w,qgr (hI.rd t) (hI.rd u)⟩⟩
theorem qfw{fn:Func}{s:AS}{t u v:Tmp}(hr:fn.results= #[.tmp t,.tmp u,.tmp v]):ARes E fn s (.tu [qg fn.ntmps s (.tmp t),qg fn.ntmps s (.tmp u),qg fn.ntmps s (.tmp v)]):=
 ⟨λ_ _ G a w _ hI=>⟨.tuple #[a.tmps.getD t undef,a.tmps.getD u undef,a.tmps.getD v undef],by simp[results,hr],qpp (hI.rd t) (hI.rd u) (hI.rd v)⟩⟩
def jy(sz:Nat)(agg:Bool)(off:Nat)(cs:List AV):Option AV:=
 bif agg then(bif Zf (off+sz) cs.length then some (.ag ((cs.drop off).take sz))else none)else cs[off]?
def tyOf(P:Program)(t:TypeId):Option (Nat×Bool):=
 match P.info? t,P.underlying t with
 |some i,some d=>some (i.size,match d with |.struct _=>true|.array _ _=>true|_=>false)
 |_,_=>none
theorem vj{P:Program}{t:TypeId}{sz:Nat}{agg:Bool}(h:tyOf P t=some (sz,agg))(w:World):(sizeOf t).run P w=.ok sz w∧(isAgg t).run P w=.ok agg w:=by
 unfold tyOf at h;split at h
 .rename_i i d hi hd
  simp only[Qb,Qs]at h;obtain⟨rfl,rfl⟩:=h;refine⟨by simp[sizeOf,typeInfo,hi],?_⟩
  cases d<;>simp[isAgg,run_underlying hd]
 .simp at h
theorem qau{P:Program}{t:TypeId}{sz:Nat}{agg:Bool}(ht:tyOf P t=some (sz,agg)){w:World}{G:Gh}{b off:Nat}{cs:List AV}{off':Nat}{r:AV}
  (hc:∀(i:Nat)(x:AV),cs[i]?=some x->off'<=i->∃y,w.cell? ⟨b,off+(i-off'),none⟩=some y∧Rel G x y) (hr:jy sz agg off' cs=some r):
  ∃v,(loadVar t ⟨b,off,none⟩).run P w=.ok v w∧Rel G r v:=by
 obtain⟨h1,h2⟩:=vj ht w
 cases agg with
 |false=>
  simp only[jy,cond_false]at hr;obtain⟨y,hy,hR⟩:=hc off' r hr (Qg _);simp only[Nat.sub_self,Zq]at hy
  exact⟨y,by simp[loadVar,h2,run_load,hy],hR⟩
 |true=>
  simp only[jy,cond_true]at hr
  cases hb:Zf (off'+sz) cs.length with
  |false=>rw[hb]at hr;simp at hr
  |true=>
   rw[hb]at hr;simp only[cond_true,Qb]at hr;have d8:off'+sz<=cs.length:=Qm hb
   have hch:∀j,j<sz->∃y,w.cell? ⟨b,off+j,none⟩=some y∧Rel G (cs.getD (off'+j) (.v undef)) y:=λj hj=>by
    have hx:cs[off'+j]?=some cs[off'+j]:=Qe Om;obtain⟨y,hy,hR⟩:=hc _ _ hx Om;exact⟨y,by rw[<-hy];congr 2;omega,by rw[Zc,hx];exact hR⟩
   let f:Nat->Value:=λj=>if h:j<sz then Classical.choose (hch j h)else undef
   have hf:∀j,j<sz->w.cell? ⟨b,off+j,none⟩=some (f j)∧Rel G (cs.getD (off'+j) (.v undef)) (f j):=λj hj=>by
    have:=Classical.choose_spec (hch j hj);simp only[f,hj,dite_true];exact this
   have hl:=run_loadCells (P:=P) w ⟨b,off,none⟩ sz f (λj hj=>by rw[Addr.add_lit];exact(hf j hj).1);refine⟨.agg ((List.range sz).map f).toArray,by simp[loadVar,h2,h1,hl],?_⟩;subst hr;refine .ag _ _ So λi x y hx hy=>?_;have hi:i<sz:=by have:=lt_of_getElem? hx;simp at this;omega
   rw[Zr,if_pos hi,Qt]at hx;simp[hi]at hy;subst hy;have:=(hf i hi).2;rw[Zc,hx]at this;exact this
variable {rd : Option Nat} {N : Nat} {ops : Array Oper} {K : AS → Prop} {s : AS} {rest : List Oper} {d : Option Tmp} {T : TypeId} {p : String} {af : Array Edge}
theorem Inv.eval_of{B0:Nat}{w0:World}{G:Gh}{a:Act}{w:World}(h:Inv B0 w0 N G s a w){x:Operand}{r:AV}(hx:qg N s x=r):Rel G r (a.eval x):=hx▸h.eval x
theorem vr{x:Operand}{t:TypeId}{sz:Nat}{agg:Bool}{cs:List AV}{r:AV}(hx:qg N s x=.pp cs)(ht:tyOf E.P t=some (sz,agg))(hr:jy sz agg 0 cs=some r)
  (h:AOps E rd N ops rest K (s.put d r)):AOps E rd N ops (⟨d,.load t x,T,p,af,none⟩::rest) K s:=by
 refine qv rfl (qu nofun λB0 w0 G a w _ hI=>?_);have he:=hI.eval_of hx;generalize hv:a.eval x=v at he
 cases he with
 |pp _ b off pub hp b9 m8=>
  obtain⟨c,T',fz,hc,hcc⟩:=hI.agree.pub b pub hp
  obtain⟨v,a8,hR⟩:=qau (w:=w) (G:=G) (b:=b) (off:=off) ht (λi x hx _=>by
   have hi:=lt_of_getElem? hx;have hy:pub[off+i]?=some (pub[off+i]'(by omega)):=Qe Om;refine⟨_,?_,m8 i x _ hx hy⟩
   simp[World.cell?,hc,hcc _ _ hy]) hr
  exact⟨v,w,G,r,s.st,by simp only[execOp,hv,Instr.loadAt,Instr.sureAddr];simp[a8],.refl G,hI.agree,hR,h⟩
theorem kh{x:Operand}{t:TypeId}{sz:Nat}{agg:Bool}{o ver off:Nat}{T':TypeId}{cs:List AV}{r:AV}(hx:qg N s x=.bx o ver off)(ho:s.st[o]?=some (.cells ver T' cs))(ht:tyOf E.P t=some (sz,agg))(hr:jy sz agg off cs=some r)
  (h:AOps E rd N ops rest K (s.put d r)):AOps E rd N ops (⟨d,.load t x,T,p,af,none⟩::rest) K s:=by
 refine qv rfl (qu nofun λB0 w0 G a w _ hI=>?_);have he:=hI.eval_of hx;generalize hv:a.eval x=v at he
 cases he with
 |bx _ _ _ b hn dx hb=>
  obtain⟨_,h1,h2,h3,c,h4,h5,h6⟩:=hI.agree.ob o _ ho;have hb:=hb h1;rw[hb]at h4
  obtain⟨v,a8,hR⟩:=qau (w:=w) (G:=G) (b:=b) (off:=off) (off':=off) ht (λi x hx hi=>by
   obtain⟨y,hy⟩:=wg hx (Qk h5);refine⟨y,?_,h6 i x y hx hy⟩
   simp[World.cell?,h4,show off+(i-off)=i by omega,hy]) hr
  exact⟨v,w,G,r,s.st,by simp only[execOp,hv,Instr.loadAt,Instr.sureAddr];simp[a8],.refl G,hI.agree,hR,h⟩
end
end Go.Av
namespace Go.Av
open Go Go.RowKit
def AV.okc:AV->Bool
 |.v (.agg _)=>false
 |_=>true
def AV.one:AV->Bool
 |.v (.agg _)=>false
 |.v (.tuple _)=>false
 |.ag _=>false
 |.tu _=>false
 |_=>true
def RelC(G:Gh)(cs:List AV)(vs:Array Value):Prop:=cs.length=vs.size∧∀(i:Nat)(x:AV)(y:Value),cs[i]?=some x->vs[i]?=some y->Rel G x y
theorem RelC.mono{G G':Gh}(hG:G.le G'){cs:List AV}{vs:Array Value}(h:RelC G cs vs):RelC G' cs vs:=⟨h.1,λi x y hx hy=>(h.2 i x y hx hy).mono hG⟩
theorem qaz{G:Gh}{x:AV}{y:Value}(h:Rel G x y):RelC G [x] #[y]:=⟨rfl,λi a b ha hb=>by
 match i with
 |0=>simp at ha hb;subst ha;subst hb;exact h
 |i+1=>simp at ha⟩
theorem Rel.cells{G:Gh}{a:AV}{v:Value}(h:Rel G a v)(hok:a.okc=true):RelC G a.cells v.cells:=by
 cases h with
 |ag cs vs hl h=>exact⟨hl,h⟩
 |v=>cases v<;>first|(simp[AV.okc]at hok;done)|exact qaz (.v _)
 |tu cs vs hl h=>exact qaz (.tu cs vs hl h)
 |ifc t x y h=>exact qaz (.ifc t x y h)
 |fn f a b a' b' h1 h2 h3 h4=>exact qaz (.fn f a b a' b' h1 h2 h3 h4)
 |sl0 sz tip base cap ht=>exact qaz (.sl0 sz tip base cap ht)
 |sl sz xs tip b off cap pub h1 h2 h3 h4 h5 h6=>exact qaz (.sl sz xs tip b off cap pub h1 h2 h3 h4 h5 h6)
 |pp cs b off pub h1 h2 h3=>exact qaz (.pp cs b off pub h1 h2 h3)
 |bx o ver off b h1 h2 h3=>exact qaz (.bx o ver off b h1 h2 h3)
 |os o ver off len b cap h1 h2 h3=>exact qaz (.os o ver off len b cap h1 h2 h3)
 |mp o b h1 h2 h3=>exact qaz (.mp o b h1 h2 h3)
 |yd o b h1 h2 h3=>exact qaz (.yd o b h1 h2 h3)
theorem Rel.one{G:Gh}{a:AV}{v:Value}(h:Rel G a v)(hok:a.one=true):v.oneCell'=true:=by
 cases h with
 |v=>cases v<;>simp_all[AV.one,Value.oneCell']
 |ag=>simp[AV.one]at hok
 |tu=>simp[AV.one]at hok
 |_=>rfl
section
variable {B0 : Nat} {w0 : World} {G : Gh} {st : List AObj} {w : World}
theorem qef(w:World)(g:Nat)(cs:Array Value)(b:Nat)(h:b≠g):(w.setRow g cs).heap[b]?=w.heap[b]?:=by
 simp only[World.setRow,Array.getElem?_modify];rw[if_neg (Ne.symm h)]
theorem qhb(w:World)(g:Nat)(cs:Array Value):(w.setRow g cs).heap.size=w.heap.size:=by simp[World.setRow]
theorem getElem?_set'{α:Type}(l:List α)(i j:Nat)(a x:α)(h:(l.set i a)[j]?=some x):(j=i∧x=a)∨(j≠i∧l[j]?=some x):=by
 by_cases e:j=i
 .subst e
  rw[Zs]at h;rw[if_pos rfl]at h;split at h
  .exact .inl ⟨rfl,by simpa using h.symm⟩
  .simp at h
 .rw[Qo (Ne.symm e)]at h
  exact .inr ⟨e,h⟩
theorem zb.setRow(h:zb B0 w0 G st w){o ver:Nat}{T:TypeId}{cs cs':List AV}{c':Array Value}(ho:st[o]?=some (.cells ver T cs))
  (hl:cs'.length=c'.size) (hr:∀(i:Nat)(x:AV)(y:Value),cs'[i]?=some x->c'[i]?=some y->Rel G x y):zb B0 w0 G (st.set o (.cells ver T cs')) (w.setRow (G.ob o).blk c'):=by
 obtain⟨h0,h1,h2,h3,c,h4,h5,h6⟩:=h.ob o _ ho;have e8:=lt_of_getElem? ho;refine⟨h.below.trans ⟨rfl,rfl,rfl,by rw[qhb];exact Qg _,λk hk=>qef _ _ _ _ Om⟩,by rw[qhb];exact h.hB,by simp[h.n],λb vs hb=>?_,λk x hx=>?_,λk k' x x' d7 hx g9 dp lk=>?_⟩
 .rw[qef _ _ _ _ (λe=>by rw[e,h3]at hb;simp at hb)]
  exact h.pub b vs hb
 .rcases getElem?_set' _ _ _ _ _ hx with⟨rfl,rfl⟩|⟨d7,hx⟩
  .exact⟨h0,h1,h2,h3,c',setRow_heap w _ c c' T (0,0) h4,hl,hr⟩
  .refine(h.ob k x hx).mono (.refl G) rfl (λ_=>rfl) (λhlv=>qef _ _ _ _ ?_)
   exact h.sep k o x _ d7 hx ho hlv trivial
 .rcases getElem?_set' _ _ _ _ _ hx with⟨e1,e2⟩|⟨_,e2⟩
  .rcases getElem?_set' _ _ _ _ _ g9 with⟨e3,_⟩|⟨_,e4⟩
   .exact absurd (e1.trans e3.symm) d7
   .rw[e1];exact h.sep o k' _ x' (λe=>d7 (e1.trans e)) ho e4 trivial lk
  .rcases getElem?_set' _ _ _ _ _ g9 with⟨e3,_⟩|⟨_,e4⟩
   .rw[e3];exact h.sep k o x _ (λe=>d7 (e.trans e3.symm)) e2 ho dp trivial
   .exact h.sep k k' x x' d7 e2 e4 dp lk
end
section
variable {E : Env} {rd : Option Nat} {N : Nat} {ops : Array Oper} {K : AS → Prop} {s : AS} {rest : List Oper} {d : Option Tmp} {T : TypeId} {p : String} {af : Array Edge}
def z0(cs:List AV)(off:Nat)(xs:List AV):List AV:=cs.take off++xs++cs.drop (off+xs.length)
theorem q6q{G:Gh}{cs xs:List AV}{c:Array Value}{vs:List Value}{off:Nat}(hl:cs.length=c.size)(hr:∀(i:Nat)(x:AV)(y:Value),cs[i]?=some x->c[i]?=some y->Rel G x y)
  (hx:RelC G xs vs.toArray) (o7:off+xs.length<=cs.length):
  (z0 cs off xs).length=(c.toList.take off++vs++c.toList.drop (off+vs.length)).toArray.size∧∀(i:Nat)(x:AV)(y:Value),(z0 cs off xs)[i]?=some x->(c.toList.take off++vs++c.toList.drop (off+vs.length)).toArray[i]?=some y->Rel G x y:=by
 have b9:xs.length=vs.length:=by simpa using hx.1
 refine⟨by simp[z0];omega,λi x y h1 h2=>?_⟩;simp only[z0,Qx,Qu]at h1 h2;have e1:(cs.take off).length=off:=So
 have e2:(c.toList.take off).length=off:=So
 by_cases hi:i<off
 .rw[Qa Om,Zr,if_pos hi]at h1 h2
  exact hr i x y h1 (by simpa using h2)
 .rw[Qc Om,e1]at h1
  rw[Qc Om,e2]at h2;by_cases hj:i-off<xs.length
  .rw[Qa hj]at h1
   rw[Qa Om]at h2;exact hx.2 _ x y h1 (by simpa using h2)
  .rw[Qc Om,Qt]at h1 h2
   rw[<-b9]at h2;exact hr _ x y h1 (by simpa using h2)
theorem qif{x y:Operand}{t:TypeId}{sz:Nat}{agg:Bool}{o ver off:Nat}{T':TypeId}{cs xs:List AV}{r:AV}(hx:qg N s x=.bx o ver off)(hy:qg N s y=r)(ho:s.st[o]?=some (.cells ver T' cs))(ht:tyOf E.P t=some (sz,agg))
  (hok:r.okc=true) (hc:r.cells=xs) (o9:xs.length=sz) (h1:∀z∈xs,z.one=true) (o7:off+sz<=cs.length)
  (h:AOps E rd N ops rest K (AS.put ⟨s.t,s.st.set o (.cells ver T' (z0 cs off xs)),s.df⟩ d (.v undef))):AOps E rd N ops (⟨d,.store t x y,T,p,af,none⟩::rest) K s:=by
 refine qv rfl (qpu nofun λB0 w0 G a w _ hI=>?_);have he:=hI.eval_of hx;have gr:=hI.eval_of hy;have pg:=gr.cells hok;generalize hv:a.eval x=v at he;generalize hv2:a.eval y=v2 at gr pg;rw[hc]at pg
 cases he with
 |bx _ _ _ b hn dx hb=>
  obtain⟨_,g1,g2,g3,c,g4,g5,g6⟩:=hI.agree.ob o _ ho;have hb:=hb g1;subst hb;have hcl':RelC G xs v2.cells.toList.toArray:=by simpa using pg
  have b9:v2.cells.size=sz:=by rw[<-pg.1];exact o9
  have p6:∀u∈v2.cells.toList,u.oneCell'=true:=λu hu=>by
   obtain⟨i,hi⟩:=Qr hu;obtain⟨z,hz⟩:=q5o hi (Qk (by simpa using pg.1.symm));exact(pg.2 i z u hz (by simpa using hi)).one (h1 z (Qf hz))
  have d9:=run_storeCells_at E.P (G.ob o).blk off T' v2.cells.toList 0 c w g4 (by simp[b9];omega) p6;have s6:=q6q (off:=off) g5 g6 hcl' Om;refine⟨_,G,_,?_,.refl G,hI.agree.setRow ho s6.1 s6.2,h⟩;simp only[execOp,hv,hv2,Instr.storeAt,Instr.sureAddr];simp[storeVar,(vj ht w).1,b9,d9]
def qi0(P:Program)(t:TypeId):Option (List AV):=
 match P.info? t with
 |some i=>i.zero.map λz=>z.cells.toList.map .v
 |none=>none
theorem qo8{P:Program}{t:TypeId}{cs:List AV}(h:qi0 P t=some cs)(w:World):∃z,(zeroValue t).run P w=.ok z w∧∀G,RelC G cs z.cells:=by
 unfold qi0 at h;split at h
 .rename_i i hi
  cases hz:i.zero with
  |none=>rw[hz]at h;simp at h
  |some z=>
   rw[hz]at h;simp only[Za,Qb]at h;subst h;refine⟨z,by simp[zeroValue,typeInfo,hi,hz],λG=>⟨Sx,λi x y hx hy=>?_⟩⟩;rw[Qn]at hx;simp only[Qy,hy,Za,Qb]at hx;subst hx;exact .v y
 .simp at h
theorem RelC.new{G:Gh}{cs:List AV}{c:Array Value}(h:RelC G cs c):cs.length=c.size:=h.1
theorem qt3{B0:Nat}{w0:World}{G:Gh}{st:List AObj}{w:World}(h:zb B0 w0 G st w)(cap:Nat):Rel (G.new 0 w.heap.size cap false) (.bx st.length 0 0) (.pointer (some ⟨w.heap.size,0,none⟩)):=
 .bx _ _ _ _ (by simp[Gh.new,h.n]) (Zy _) λ_=>by simp[Gh.new,h.n]
theorem kj{t:TypeId}{st:List AObj}{loc:List AObj}{cs:List AV}(d9:s.st=st++loc)(hz:qi0 E.P t=some cs)
  (h:AOps E rd N ops rest K (AS.put ⟨s.t,st++(loc++[.cells 0 t cs]),s.df⟩ d (.bx (st.length+loc.length) 0 0))):AOps E rd N ops (⟨d,.alloc t,T,p,af,none⟩::rest) K s:=by
 refine qv rfl (qu nofun λB0 w0 G a w _ hI=>?_);obtain⟨z,hz,hr⟩:=qo8 hz w;have hA:=hI.agree.newCells t z.cells cs (hr G).new (hr G).2;have hp:=qt3 hI.agree z.cells.size;rw[d9]at hA hp;simp only[Qu,Qh]at hA hp;exact⟨_,_,_,_,_,by simp[execOp,Instr.alloc,hz,newVar,newRow,newObj,Sem.run],G.le_new _ _ _ _,hA,hp,h⟩
theorem qch{t:TypeId}{x:Operand}{st:List AObj}{loc:List AObj}{r:AV}{cs:List AV}(d9:s.st=st++loc)(hx:qg N s x=r)(hok:r.okc=true)(hc:r.cells=cs)
  (h:AOps E rd N ops rest K (AS.put ⟨s.t,st++(loc++[.cells 0 t cs]),s.df⟩ d (.bx (st.length+loc.length) 0 0))):AOps E rd N ops (⟨d,.box t x,T,p,af,none⟩::rest) K s:=by
 refine qv rfl (qu nofun λB0 w0 G a w _ hI=>?_);have hr:=(hI.eval_of hx).cells hok;rw[hc]at hr;have hA:=hI.agree.newCells t _ cs hr.new hr.2;have hp:=qt3 hI.agree (a.eval x).cells.size;rw[d9]at hA hp;simp only[Qu,Qh]at hA hp
 have a8:(execOp a.eval ⟨d,.box t x,T,p,af,none⟩).run E.P w=.ok (.value (.pointer (some ⟨w.heap.size,0,none⟩))) (w.alloc (.cells (a.eval x).cells t)):=by
  generalize a.eval=ρ;simp[execOp,Instr.box,newVar,newRow,newObj,Sem.run]
 exact⟨_,_,_,_,_,a8,G.le_new _ _ _ _,hA,hp,h⟩
def qa7(P:Program)(t:TypeId)(f:Nat):Option (Nat×Nat×Bool):=
 match P.underlying t with
 |some (.struct fs)=>match fs[f]?with
  |some fd=>match tyOf P fd.type with
   |some (sz,agg)=>some (fd.offset,sz,agg)
   |none=>none
  |none=>none
 |_=>none
theorem qp7{P:Program}{t:TypeId}{f off sz:Nat}{agg:Bool}(h:qa7 P t f=some (off,sz,agg)):∃fs fd,P.underlying t=some (.struct fs)∧fs[f]?=some fd∧fd.offset=off∧tyOf P fd.type=some (sz,agg):=by
 unfold qa7 at h;split at h
 .rename_i fs hu
  split at h
  .rename_i fd hf
   split at h
   .rename_i sz' agg' ht
    simp only[Qb,Qs]at h;obtain⟨rfl,rfl,rfl⟩:=h;exact⟨fs,fd,hu,hf,rfl,ht⟩
   .simp at h
  .simp at h
 .simp at h
theorem qie{t:TypeId}{x:Operand}{f off sz:Nat}{agg:Bool}{cs:List AV}{r:AV}(hx:qg N s x=.ag cs)(hf:qa7 E.P t f=some (off,sz,agg))(hr:jy sz agg off cs=some r)
  (h:AOps E rd N ops rest K (s.put d r)):AOps E rd N ops (⟨d,.field t x f,T,p,af,none⟩::rest) K s:=by
 refine qv rfl (qu nofun λB0 w0 G a w _ hI=>?_);obtain⟨fs,fd,hu,hfd,hoff,ht⟩:=qp7 hf;have he:=hI.eval_of hx;generalize hv:a.eval x=v at he
 cases he with
 |ag _ vs hl m8=>
  obtain⟨i1,i2⟩:=vj ht w
  cases agg with
  |false=>
   simp only[jy,cond_false]at hr;obtain⟨y,hy⟩:=wg hr (Qk hl);refine⟨y,w,G,r,s.st,?_,.refl G,hI.agree,m8 off r y hr hy,h⟩;simp only[execOp,hv]
   simp[Instr.field,run_underlying hu,hfd,asAgg,part,i2,hoff,hy]
  |true=>
   simp only[jy,cond_true]at hr
   cases hb:Zf (off+sz) cs.length with
   |false=>rw[hb]at hr;simp at hr
   |true=>
    rw[hb]at hr;simp only[cond_true,Qb]at hr;have d8:off+sz<=cs.length:=Qm hb;refine⟨.agg (vs.extract off (off+sz)),w,G,r,s.st,?_,.refl G,hI.agree,?_,h⟩
    .simp only[execOp,hv]
     simp[Instr.field,run_underlying hu,hfd,asAgg,part,i2,i1,hoff]
    .subst hr
     refine .ag _ _ So λi x y h1 h2=>?_;have hi:i<sz:=by have:=lt_of_getElem? h1;simp at this;omega
     simp[hi,Qt]at h1;rw[Array.getElem?_extract]at h2;split at h2
     .exact m8 (off+i) x y h1 h2
     .simp at h2
theorem qha{P:Program}{t:TypeId}{f off sz:Nat}{agg:Bool}(hf:qa7 P t f=some (off,sz,agg))(o9:sz≠0)(b o:Nat)(w:World):(Instr.fieldAt t (.pointer (some ⟨b,o,none⟩)) f).run P w=.ok (.pointer (some ⟨b,o+off,none⟩)) w:=by
 obtain⟨fs,fd,hu,hfd,hoff,ht⟩:=qp7 hf;obtain⟨i1,_⟩:=vj ht w;simp[Instr.fieldAt,run_underlying hu,hfd,Instr.sureAddr,fieldPlace,i1,o9,hoff,Addr.add_lit]
theorem zr{t:TypeId}{x:Operand}{f off sz:Nat}{agg:Bool}{o ver q:Nat}(hx:qg N s x=.bx o ver q)(hf:qa7 E.P t f=some (off,sz,agg))(o9:Qq sz 0=false)
  (h:AOps E rd N ops rest K (s.put d (.bx o ver (q+off)))):AOps E rd N ops (⟨d,.fieldAddr t x f,T,p,af,none⟩::rest) K s:=by
 refine qv rfl (qu nofun λB0 w0 G a w _ hI=>?_);have he:=hI.eval_of hx;generalize hv:a.eval x=v at he
 cases he with
 |bx _ _ _ b hn dx hb=>
  have hs:sz≠0:=λe=>by subst e;simp at o9
  exact⟨_,w,G,_,s.st,by simp only[execOp,hv];simp[qha hf hs],.refl G,hI.agree,.bx o ver _ b hn dx hb,h⟩
theorem qb0{t:TypeId}{x:Operand}{f off sz:Nat}{agg:Bool}{cs:List AV}(hx:qg N s x=.pp cs)(hf:qa7 E.P t f=some (off,sz,agg))(o9:Qq sz 0=false)(d8:Zf off cs.length=true)
  (h:AOps E rd N ops rest K (s.put d (.pp (cs.drop off)))):AOps E rd N ops (⟨d,.fieldAddr t x f,T,p,af,none⟩::rest) K s:=by
 refine qv rfl (qu nofun λB0 w0 G a w _ hI=>?_);have he:=hI.eval_of hx;generalize hv:a.eval x=v at he
 cases he with
 |pp _ b q pub hp b9 m8=>
  have hs:sz≠0:=λe=>by subst e;simp at o9
  have ho:off<=cs.length:=Qm d8;refine⟨.pointer (some ⟨b,q+off,none⟩),w,G,_,s.st,by simp only[execOp,hv];simp[qha hf hs],.refl G,hI.agree,?_,h⟩;exact .pp _ b (q+off) pub hp So λi x y h1 h2=>m8 (off+i) x y (by simpa using h1) (by rw[<-h2];congr 1;omega)
theorem zk{x:Operand}{i:Nat}{xs:List AV}{r:AV}(hx:qg N s x=.tu xs)(hr:xs[i]?=some r)
  (h:AOps E rd N ops rest K (s.put d r)):AOps E rd N ops (⟨d,.extract x i,T,p,af,none⟩::rest) K s:=by
 refine qv rfl (qu nofun λB0 w0 G a w _ hI=>?_);have he:=hI.eval_of hx;generalize hv:a.eval x=v at he
 cases he with
 |tu _ vs hl m8=>
  obtain⟨y,hy⟩:=wg hr (Qk hl);refine⟨y,w,G,r,s.st,?_,.refl G,hI.agree,m8 i r y hr hy,h⟩;simp only[execOp,hv];simp[Instr.extract,hy]
def qpl:TypeDesc->Bool
 |.interface _=>true
 |_=>false
theorem vc{x:Operand}{t:TypeId}{dsc:TypeDesc}(hu:E.P.underlying t=some dsc)(hd:qpl dsc=false)
  (h:AOps E rd N ops rest K (s.put d (.ifc t (qg N s x)))):AOps E rd N ops (⟨d,.makeInterface t x,T,p,af,none⟩::rest) K s:=by
 refine qv rfl (qu nofun λB0 w0 G a w _ hI=>⟨.iface t (a.eval x),w,G,_,s.st,?_,.refl G,hI.agree,.ifc t _ _ (hI.eval x),h⟩);generalize a.eval=ρ
 cases dsc<;>first|(simp[qpl]at hd;done)|simp[execOp,Instr.makeInterface,run_underlying hu]
theorem qfa{B0:Nat}{w0:World}{G:Gh}{a:Act}{w:World}(hI:Inv B0 w0 N G s a w)(xs:Array Operand):RelL G (xs.toList.map (qg N s)) (xs.map a.eval):=
 ⟨Sx,λi x y hx hy=>by
  simp only[Qn,Qy,Array.getElem?_map]at hx hy
  cases hq:xs[i]?with
  |none=>simp[hq]at hx
  |some z=>simp[hq]at hx hy;subst hx;subst hy;exact hI.eval z⟩
theorem qev{fn:Fn}{xs ys:Array Operand}
  (h:AOps E rd N ops rest K (s.put d (.fn fn (xs.toList.map (qg N s)) (ys.toList.map (qg N s))))):AOps E rd N ops (⟨d,.makeFunc fn xs ys,T,p,af,none⟩::rest) K s:=
 qv rfl (qu nofun λB0 w0 G a w _ hI=>⟨.func fn (xs.map a.eval) (ys.map a.eval),w,G,_,s.st,by
  generalize a.eval=ρ
  simp[execOp,Instr.makeFunc],.refl G,hI.agree,.fn _ _ _ _ _ (qfa hI xs).1 (qfa hI ys).1 (qfa hI xs).2 (qfa hI ys).2,h⟩)
theorem qfe{f:FuncId}{xs:Array Operand}{ts:Array TypeId}(a8:∀vs w,(callFunc f vs).run E.P w=.ok (.enter f vs) w)
  (h:qm E f (xs.toList.map (qg N s)) s.st λr st'=>AOps E rd N ops rest K (AS.put ⟨s.t,st',s.df⟩ d r)):AOps E rd N ops (⟨d,.call ⟨.value (.func f),xs,ts⟩,T,p,af,none⟩::rest) K s:=by
 refine qv rfl ⟨λB0 w0 G a w hL hI K' Q hK=>?_⟩
 have hr:(execOp a.eval ⟨d,.call ⟨.value (.func f),xs,ts⟩,T,p,af,none⟩).run E.P w=.ok (.enter f (xs.map a.eval)) w:=by
  have he:a.eval (.func f)=.func (.func f) #[] #[]:=rfl;generalize a.eval=ρ at he;simp[execOp,resolve,Deferred.ofValue,he,invoke,a8]
 refine⟨λ_ _=>trivial,?_⟩;rw[qfb (λc h=>by simp at h),hr,Oper.uponIn_enter];refine⟨λh=>by simp[fw,Fence.wide]at h,qih ((h.run B0 w0 G _ w hL hI.agree (qfa hI xs)).mono ?_)⟩;rintro e w' ⟨v,G',r,st',rfl,hG,hA,hR,hk⟩;exact hK G' _ _ _ hG (hI.put hG hA d hR) hk
theorem qsd{x:Operand}{f:FuncId}{fs cs:List AV}{xs:Array Operand}{ts:Array TypeId}(hx:qg N s x=.fn (.func f) fs cs)(a8:∀vs w,(callFunc f vs).run E.P w=.ok (.enter f vs) w)
  (h:qm E f (fs++xs.toList.map (qg N s)++cs) s.st λr st'=>AOps E rd N ops rest K (AS.put ⟨s.t,st',s.df⟩ d r)):AOps E rd N ops (⟨d,.call ⟨.value x,xs,ts⟩,T,p,af,none⟩::rest) K s:=by
 refine qv rfl ⟨λB0 w0 G a w hL hI K' Q hK=>?_⟩;have he:=hI.eval_of hx;generalize hv:a.eval x=v at he
 cases he with
 |fn _ _ _ fs' cs' h1 h2 h3 h4=>
  have hr:(execOp a.eval ⟨d,.call ⟨.value x,xs,ts⟩,T,p,af,none⟩).run E.P w=.ok (.enter f (fs'++xs.map a.eval++cs')) w:=by
   generalize a.eval=ρ at hv;simp[execOp,resolve,Deferred.ofValue,hv,invoke,a8]
  refine⟨λ_ _=>trivial,?_⟩;rw[qfb (λc h=>by simp at h),hr,Oper.uponIn_enter];have rf:=qfa hI xs;refine⟨λh=>by simp[fw,Fence.wide]at h,qih ((h.run B0 w0 G _ w hL hI.agree ⟨by simp[h1,h2],λi x y g1 g2=>?_⟩).mono ?_)⟩
  .rw[Qi]at g2
   by_cases hi:i<(fs'++xs.map a.eval).size
   .rw[if_pos hi]at g2
    rw[Qa (by simp at hi⊢;omega)]at g1;rw[Qi]at g2;by_cases mc:i<fs'.size
    .rw[if_pos mc]at g2
     rw[Qa Om]at g1;exact h3 i x y g1 g2
    .rw[if_neg mc]at g2
     rw[Qc Om,h1]at g1;exact rf.2 _ x y g1 g2
   .rw[if_neg hi]at g2
    rw[Qc (by simp at hi⊢;omega)]at g1;refine h4 _ x y g1 ?_;rw[<-g2];congr 1;simp[h1]
  .rintro e w' ⟨v,G',r,st',rfl,hG,hA,hR,hk⟩
   exact hK G' _ _ _ hG (hI.put hG hA d hR) hk
end
end Go.Av
namespace Go.Av
open Go Go.RowKit
section
variable {E : Env} {rd : Option Nat} {N : Nat} {ops : Array Oper} {K : AS → Prop} {s : AS} {rest : List Oper} {d : Option Tmp} {T : TypeId} {p : String} {af : Array Edge}
theorem q4w{c:Operand}{x y:Code}{Q:Exit->AS->Prop}{b:Bool}(hc:qg N s c=.v (.bool b))(hb:b=true)(h:AWp E rd N x Q s):AWp E rd N (.cond c x y) Q s:=
 qqw hc (λ_=>h) (λe=>by rw[hb]at e;cases e)
theorem q4v{c:Operand}{x y:Code}{Q:Exit->AS->Prop}{b:Bool}(hc:qg N s c=.v (.bool b))(hb:b=false)(h:AWp E rd N y Q s):AWp E rd N (.cond c x y) Q s:=
 qqw hc (λe=>by rw[hb]at e;cases e) (λ_=>h)
theorem qk7{op:Op}{oj:Oper}{j e:Nat}{want b:Bool}(hj:ops[j]?=some oj)(hd:oj.dst=some e)(hN:Qw e N=true)(hb:s.t e=.v (.bool b))(hw:b=want)
  (h:AOps E rd N ops (⟨d,op,T,p,af,none⟩::rest) K s):AOps E rd N ops (⟨d,op,T,p,af,some (j,want)⟩::rest) K s:=by
 refine⟨λB0 w0 G a w hL hI Q hQ=>?_⟩;have cn:e<a.tmps.size:=by rw[hI.size];simpa[Ze]using hN
 have hr:=hI.tmps e a.tmps[e] (by simp[cn])
 have hv:a.tmps[e]?=some (.bool b):=by
  rw[hb]at hr;have:a.tmps[e]=.bool b:=by generalize a.tmps[e]=v at hr;cases hr;rfl
  simp[cn,this]
 have hy:yielded ops a.tmps j=some b:=by simp[yielded,hj,hd,hv]
 have h':=h.run B0 w0 G a w hL hI Q hQ;unfold wpListIn at h'⊢;rw[if_pos (by simp[Region.wanted])]at h';rw[if_pos (by simp[Region.wanted,hy,hw])];exact h'
theorem qj4{op:Op}{oj:Oper}{j e:Nat}{want b:Bool}(hj:ops[j]?=some oj)(hd:oj.dst=some e)(hN:Qw e N=true)(hb:s.t e=.v (.bool b))(hw:(b==want)=false)
  (h:AOps E rd N ops rest K (s.put d (.v undef))):AOps E rd N ops (⟨d,op,T,p,af,some (j,want)⟩::rest) K s:=
 q4q rfl hj hd hN hb (λe=>by rw[e]at hw;simp at hw) (λ_=>h)
theorem qpx{c x y:Operand}{b:Bool}(hc:qg N s c=.v (.bool b))(hb:b=true)(h:AOps E rd N ops rest K (s.put d (qg N s x))):AOps E rd N ops (⟨d,.pick c x y,T,p,af,none⟩::rest) K s:=
 qv rfl (qu nofun λ_ _ G a w _ hI=>⟨a.eval x,w,G,qg N s x,s.st,by
  have:=hI.evalv hc;generalize a.eval=ρ at this
  simp[execOp,this,asBool,hb],.refl G,hI.agree,hI.eval x,h⟩)
theorem qpw{c x y:Operand}{b:Bool}(hc:qg N s c=.v (.bool b))(hb:b=false)(h:AOps E rd N ops rest K (s.put d (qg N s y))):AOps E rd N ops (⟨d,.pick c x y,T,p,af,none⟩::rest) K s:=
 qv rfl (qu nofun λ_ _ G a w _ hI=>⟨a.eval y,w,G,qg N s y,s.st,by
  have:=hI.evalv hc;generalize a.eval=ρ at this
  simp[execOp,this,asBool,hb],.refl G,hI.agree,hI.eval y,h⟩)
theorem qci{op:Op}{oj:Oper}{j e:Nat}{want:Bool}(hj:ops[j]?=some oj)(hd:oj.dst=some e)(hN:Qw e N=true)(hb:s.t e=.v undef)
  (h:AOps E rd N ops rest K (s.put d (.v undef))):AOps E rd N ops (⟨d,op,T,p,af,some (j,want)⟩::rest) K s:=by
 refine⟨λB0 w0 G a w hL hI Q hQ=>?_⟩;have cn:e<a.tmps.size:=by rw[hI.size];simpa[Ze]using hN
 have hr:=hI.tmps e a.tmps[e] (by simp[cn])
 have hv:a.tmps[e]?=some undef:=by
  rw[hb]at hr;have:a.tmps[e]=undef:=by generalize a.tmps[e]=v at hr;cases hr;rfl
  simp[cn,this]
 have hy:yielded ops a.tmps j=none:=by simp[yielded,hj,hd,hv,undef]
 refine wpListIn_step λK' hK=>?_;simp only[Region.wanted,hy];rw[if_neg Sx];exact⟨λ_ _=>trivial,hK _ _ (h.run B0 w0 G _ w hL (hI.put (.refl G) hI.agree d (.v undef)) Q hQ)⟩
structure GD (E:Env) (rd:Option Nat) (N:Nat) (ops:Array Oper) (o:Oper) (rest:List Oper) (K:AS->Prop) (s:AS) (b want:Bool):Prop where
 run:b=want->AOps E rd N ops ({o with guard:=none}::rest) K s
 skip:b=(!want)->AOps E rd N ops rest K (s.put o.dst (.v undef))
theorem zn{op:Op}{oj:Oper}{j e:Nat}{want b:Bool}(hj:ops[j]?=some oj)(hd:oj.dst=some e)(hN:Qw e N=true)(hb:s.t e=.v (.bool b))
  (h:GD E rd N ops ⟨d,op,T,p,af,some (j,want)⟩ rest K s b want):AOps E rd N ops (⟨d,op,T,p,af,some (j,want)⟩::rest) K s:=by
 by_cases hw:b=want
 .exact qk7 hj hd hN hb hw (h.run hw)
 .have bp:b= !want:=by cases b<;>cases want<;>first|rfl|exact absurd rfl hw
  have hw2:(b==want)=false:=by cases b<;>cases want<;>first|rfl|exact absurd rfl hw
  exact qj4 hj hd hN hb hw2 (h.skip bp)
section
variable {o : Oper} {q : Prop} [Decidable q] {b : Bool}
theorem qe7(hq:q)(h:AOps E rd N ops ({o with guard:=none}::rest) K s):GD E rd N ops o rest K s (decide q) true:=⟨λ_=>h,λe=>by simp[hq]at e⟩
theorem qcq(hq:¬q)(h:AOps E rd N ops ({o with guard:=none}::rest) K s):GD E rd N ops o rest K s (decide q) false:=⟨λ_=>h,λe=>by simp[hq]at e⟩
theorem qce(hq:q)(h:AOps E rd N ops rest K (s.put o.dst (.v undef))):GD E rd N ops o rest K s (decide q) false:=⟨λe=>by simp[hq]at e,λ_=>h⟩
theorem qfi(hq:¬q)(h:AOps E rd N ops rest K (s.put o.dst (.v undef))):GD E rd N ops o rest K s (decide q) true:=⟨λe=>by simp[hq]at e,λ_=>h⟩
theorem qdm(hq:b=true)(h:AOps E rd N ops ({o with guard:=none}::rest) K s):GD E rd N ops o rest K s b true:=⟨λ_=>h,λe=>by simp[hq]at e⟩
theorem qgm(hq:b=false)(h:AOps E rd N ops ({o with guard:=none}::rest) K s):GD E rd N ops o rest K s b false:=⟨λ_=>h,λe=>by simp[hq]at e⟩
theorem qbl(hq:b=true)(h:AOps E rd N ops rest K (s.put o.dst (.v undef))):GD E rd N ops o rest K s b false:=⟨λe=>by simp[hq]at e,λ_=>h⟩
theorem qcf(hq:b=false)(h:AOps E rd N ops rest K (s.put o.dst (.v undef))):GD E rd N ops o rest K s b true:=⟨λe=>by simp[hq]at e,λ_=>h⟩
theorem qoc(hq:b=false)(h:AOps E rd N ops ({o with guard:=none}::rest) K s):GD E rd N ops o rest K s (!b) true:=⟨λ_=>h,λe=>by simp[hq]at e⟩
theorem qbk(hq:b=true)(h:AOps E rd N ops ({o with guard:=none}::rest) K s):GD E rd N ops o rest K s (!b) false:=⟨λ_=>h,λe=>by simp[hq]at e⟩
theorem qcr(hq:b=false)(h:AOps E rd N ops rest K (s.put o.dst (.v undef))):GD E rd N ops o rest K s (!b) false:=⟨λe=>by simp[hq]at e,λ_=>h⟩
theorem qmh(hq:b=true)(h:AOps E rd N ops rest K (s.put o.dst (.v undef))):GD E rd N ops o rest K s (!b) true:=⟨λe=>by simp[hq]at e,λ_=>h⟩
theorem qim{want:Bool}(ht:b=true->GD E rd N ops o rest K s (!b) want)(hf:b=false->GD E rd N ops o rest K s (!b) want):GD E rd N ops o rest K s (!b) want:=by
 cases b
 .exact hf rfl
 .exact ht rfl
theorem xv{want:Bool}(ht:q->GD E rd N ops o rest K s (decide q) want)(hf:¬q->GD E rd N ops o rest K s (decide q) want):GD E rd N ops o rest K s (decide q) want:=by
 by_cases hq:q
 .exact ht hq
 .exact hf hq
theorem qgn{want:Bool}(ht:b=true->GD E rd N ops o rest K s b want)(hf:b=false->GD E rd N ops o rest K s b want):GD E rd N ops o rest K s b want:=by
 cases hb:b
 .rw[hb]at hf;exact hf rfl
 .rw[hb]at ht;exact ht rfl
end
structure PK (E:Env) (rd:Option Nat) (N:Nat) (ops:Array Oper) (rest:List Oper) (K:AS->Prop) (s:AS) (d:Option Tmp) (x y:Operand) (b:Bool):Prop where
 t:b=true->AOps E rd N ops rest K (s.put d (qg N s x))
 f:b=false->AOps E rd N ops rest K (s.put d (qg N s y))
theorem qn{c x y:Operand}{b:Bool}(hc:qg N s c=.v (.bool b))(h:PK E rd N ops rest K s d x y b):AOps E rd N ops (⟨d,.pick c x y,T,p,af,none⟩::rest) K s:=by
 cases hb:b
 .exact qpw hc hb (h.f hb)
 .exact qpx hc hb (h.t hb)
section
variable {x y : Operand} {q : Prop} [Decidable q] {b : Bool}
theorem qeb(hq:q)(h:AOps E rd N ops rest K (s.put d (qg N s x))):PK E rd N ops rest K s d x y (decide q):=⟨λ_=>h,λe=>by simp[hq]at e⟩
theorem qea(hq:¬q)(h:AOps E rd N ops rest K (s.put d (qg N s y))):PK E rd N ops rest K s d x y (decide q):=⟨λe=>by simp[hq]at e,λ_=>h⟩
theorem qko(hq:b=false)(h:AOps E rd N ops rest K (s.put d (qg N s x))):PK E rd N ops rest K s d x y (!b):=⟨λ_=>h,λe=>by simp[hq]at e⟩
theorem qg8(hq:b=true)(h:AOps E rd N ops rest K (s.put d (qg N s y))):PK E rd N ops rest K s d x y (!b):=⟨λe=>by simp[hq]at e,λ_=>h⟩
theorem pk_t(hq:b=true)(h:AOps E rd N ops rest K (s.put d (qg N s x))):PK E rd N ops rest K s d x y b:=⟨λ_=>h,λe=>by simp[hq]at e⟩
theorem pk_f(hq:b=false)(h:AOps E rd N ops rest K (s.put d (qg N s y))):PK E rd N ops rest K s d x y b:=⟨λe=>by simp[hq]at e,λ_=>h⟩
end
structure CD (E:Env) (rd:Option Nat) (N:Nat) (x y:Code) (Q:Exit->AS->Prop) (s:AS) (b:Bool):Prop where
 t:b=true->AWp E rd N x Q s
 f:b=false->AWp E rd N y Q s
theorem qe{c:Operand}{x y:Code}{Q:Exit->AS->Prop}{b:Bool}(hc:qg N s c=.v (.bool b))(h:CD E rd N x y Q s b):AWp E rd N (.cond c x y) Q s:=qqw hc h.t h.f
section
variable {x y : Code} {Q : Exit → AS → Prop} {q : Prop} [Decidable q] {b : Bool}
theorem y5(hq:q)(h:AWp E rd N x Q s):CD E rd N x y Q s (decide q):=⟨λ_=>h,λe=>by simp[hq]at e⟩
theorem yw(hq:¬q)(h:AWp E rd N y Q s):CD E rd N x y Q s (decide q):=⟨λe=>by simp[hq]at e,λ_=>h⟩
theorem cd_t(hq:b=true)(h:AWp E rd N x Q s):CD E rd N x y Q s b:=⟨λ_=>h,λe=>by simp[hq]at e⟩
theorem cd_f(hq:b=false)(h:AWp E rd N y Q s):CD E rd N x y Q s b:=⟨λe=>by simp[hq]at e,λ_=>h⟩
theorem qpc(hq:b=false)(h:AWp E rd N x Q s):CD E rd N x y Q s (!b):=⟨λ_=>h,λe=>by simp[hq]at e⟩
theorem qsu(hq:b=true)(h:AWp E rd N y Q s):CD E rd N x y Q s (!b):=⟨λe=>by simp[hq]at e,λ_=>h⟩
theorem cd_n(ht:b=false->AWp E rd N x Q s)(hf:b=true->AWp E rd N y Q s):CD E rd N x y Q s (!b):=⟨λe=>ht (by simpa using e),λe=>hf (by simpa using e)⟩
theorem cd_d(ht:q->AWp E rd N x Q s)(hf:¬q->AWp E rd N y Q s):CD E rd N x y Q s (decide q):=⟨λe=>ht (of_decide_eq_true e),λe=>hf (of_decide_eq_false e)⟩
theorem cd_s(ht:b=true->AWp E rd N x Q s)(hf:b=false->AWp E rd N y Q s):CD E rd N x y Q s b:=⟨ht,hf⟩
end
theorem qly{x:Operand}{t:TypeId}{q:Prop}[Decidable q](hx:qg N s x=Bv (decide q))
  (h:AOps E rd N ops rest K (s.put d (Bv (decide (¬q))))):AOps E rd N ops (⟨d,.unOp .not t x,T,p,af,none⟩::rest) K s:=
 j6 hx (by rw[show(!decide q)=decide (¬q)by simp];exact h)
theorem zu{n:Int}(h: -9223372036854775808<=n)(h':n<=9223372036854775807):IntKind.i64.wrap n=n:=IntWalk.i64_in n ⟨h,h'⟩
theorem qek{x:Operand}{t:TypeId}{lo hi:Option Operand}{l:List UInt8}{i j:Int}(hx:qg N s x=Sv l)(hu:E.P.underlying t=some .string)
  (cz:match lo with|none=>i=0|some y=>∃k,qg N s y=.v (.int k i)) (cg:match hi with|none=>j=l.length|some y=>∃k,qg N s y=.v (.int k j)) (h0:0<=i) (h1:i<=j) (h2:j<=l.length)
  (h:AOps E rd N ops rest K (s.put d (Sv ((l.take j.toNat).drop i.toNat)))):AOps E rd N ops (⟨d,.slice t x lo hi none,T,p,af,none⟩::rest) K s:=
 jg _ rfl nofun (λρ w he=>by
  have e0:0<=j:=Zx h0 h1;have tw:i<=(j.toNat:Int):=by rw[Int.toNat_of_nonneg e0];exact h1
  have ex:=qbh l i.toNat j.toNat
  cases lo with
  |none=>
   simp only at cz;subst cz
   cases hi with
   |none=>
    simp only at cg;subst cg
    simp[execOp,he _ _ hx,Instr.sliceAt,Instr.slice,run_underlying hu,Instr.sliceBounds]
   |some y=>
    obtain⟨k,hy⟩:=cg
    simp[execOp,he _ _ hx,he _ _ hy,Instr.sliceAt,Instr.slice,run_underlying hu,Instr.sliceBounds,Instr.sliceBound,asIntOf,qav,e0,h2,qbh]
  |some z=>
   obtain⟨k',hz⟩:=cz
   cases hi with
   |none=>
    simp only at cg;subst cg
    simp[execOp,he _ _ hx,he _ _ hz,Instr.sliceAt,Instr.slice,run_underlying hu,Instr.sliceBounds,Instr.sliceBound,asIntOf,qav,h0,h1,qbh]
   |some y=>
    obtain⟨k,hy⟩:=cg;simp[execOp,he _ _ hx,he _ _ hy,he _ _ hz,Instr.sliceAt,Instr.slice,run_underlying hu,Instr.sliceBounds,Instr.sliceBound,asIntOf,qav,h0,e0,h2,qbh];intro hh
    omega) h
end
theorem yt{E:Env}{f:FuncId}{st:List AObj}{args:List AV}{vals:Array Value}{r:Value}(ha:args=vals.toList.map .v)
  (h:∀(B0:Nat)(w0 w:World),E.L B0 w0->Below B0 w0 w->Calls E.P f vals w λe w'=>e=.returned r∧Below w.heap.size w w'):qm E f args st λa st'=>a=.v r∧st'=st:=by
 refine⟨λB0 w0 G vs w hL hA hR=>?_⟩
 have hvs:vs=vals:=by
  subst ha;have hs:vs.size=vals.size:=by have:=hR.1;simp at this;omega
  apply Zv hs;intro i h1 h2;have:=hR.2 i (.v vals[i]) vs[i] (by simp[h2]) (by simp[h1]);generalize vs[i]=y at this
  cases this
  rfl
 rw[hvs];refine(h B0 w0 w hL hA.below).mono ?_;rintro e w' ⟨rfl,hb⟩;exact⟨r,G,.v r,st,rfl,.refl G,hA.fresh hb,.v r,rfl,rfl⟩
theorem qh9{E:Env}{f:FuncId}{st:List AObj}{args:List AV}{vals rs:Array Value}(ha:args=vals.toList.map .v)
  (h:∀(B0:Nat)(w0 w:World),E.L B0 w0->Below B0 w0 w->Calls E.P f vals w λe w'=>e=.returned (.tuple rs)∧Below w.heap.size w w'):qm E f args st λa st'=>a=.tu (rs.toList.map .v)∧st'=st:=by
 refine⟨λB0 w0 G vs w hL hA hR=>?_⟩
 have hvs:vs=vals:=by
  subst ha;have hs:vs.size=vals.size:=by have:=hR.1;simp at this;omega
  apply Zv hs;intro i h1 h2;have:=hR.2 i (.v vals[i]) vs[i] (by simp[h2]) (by simp[h1]);generalize vs[i]=y at this
  cases this
  rfl
 rw[hvs];refine(h B0 w0 w hL hA.below).mono ?_;rintro e w' ⟨rfl,hb⟩;refine⟨_,G,.tu (rs.toList.map .v),st,rfl,.refl G,hA.fresh hb,.tu _ _ Sx λi x y hx hy=>?_,rfl,rfl⟩;simp only[Qn,Qy,hy,Za,Qb]at hx;subst hx;exact .v y
theorem q15(w:World)(n:Nat):Below w.heap.size w (w.drewN n):=⟨rfl,rfl,rfl,Qg _,λ_ _=>rfl⟩
theorem q41(w:World)(k:Nat)(os:Array Obj):Below w.heap.size w (Sort.grow (w.drewN k) os):=by
 refine⟨rfl,rfl,rfl,by simp[Sort.grow,World.drewN],λj hj=>?_⟩;simp only[Sort.grow,World.drewN,Qi];rw[if_pos hj]
theorem qel{w w':World}(h:w'=w):Below w.heap.size w w':=h▸Below.refl _ _
section
variable {E : Env} {rd : Option Nat} {N : Nat} {ops : Array Oper} {K : AS → Prop} {s : AS} {rest : List Oper} {d : Option Tmp} {T : TypeId} {p : String} {af : Array Edge}
theorem qs0{op:BinOp}{x y:Operand}{t t2:TypeId}(h:AOps E rd N ops (⟨d,.binOp op t x y t2,T,p,af,none⟩::rest) K s):AOps E rd N ops (⟨d,.binOp op t x y t2,T,p,af,none⟩::rest) K s:=h
theorem qwa{op:UnOp}{x:Operand}{t:TypeId}(h:AOps E rd N ops (⟨d,.unOp op t x,T,p,af,none⟩::rest) K s):AOps E rd N ops (⟨d,.unOp op t x,T,p,af,none⟩::rest) K s:=h
theorem qv9{x:Operand}{t:TypeId}(h:AOps E rd N ops (⟨d,.load t x,T,p,af,none⟩::rest) K s):AOps E rd N ops (⟨d,.load t x,T,p,af,none⟩::rest) K s:=h
theorem qs3{x y:Operand}{t:TypeId}(h:AOps E rd N ops (⟨d,.store t x y,T,p,af,none⟩::rest) K s):AOps E rd N ops (⟨d,.store t x y,T,p,af,none⟩::rest) K s:=h
theorem qs2{x:Operand}{t:TypeId}{lo hi mx:Option Operand}(h:AOps E rd N ops (⟨d,.slice t x lo hi mx,T,p,af,none⟩::rest) K s):AOps E rd N ops (⟨d,.slice t x lo hi mx,T,p,af,none⟩::rest) K s:=h
theorem qv8{c:Go.Call}(h:AOps E rd N ops (⟨d,.call c,T,p,af,none⟩::rest) K s):AOps E rd N ops (⟨d,.call c,T,p,af,none⟩::rest) K s:=h
theorem qlh{x:Operand}{t:TypeId}{f:Nat}(h:AOps E rd N ops (⟨d,.fieldAddr t x f,T,p,af,none⟩::rest) K s):AOps E rd N ops (⟨d,.fieldAddr t x f,T,p,af,none⟩::rest) K s:=h
theorem qy9{l:List Oper}(h:AOps E rd N ops l K s):AOps E rd N ops l K s:=h
theorem qs1{op:Op}{j:Nat}{want:Bool}(h:AOps E rd N ops (⟨d,op,T,p,af,some (j,want)⟩::rest) K s):AOps E rd N ops (⟨d,op,T,p,af,some (j,want)⟩::rest) K s:=h
theorem q3h{o:Oper}{b want:Bool}(h:GD E rd N ops o rest K s b want):GD E rd N ops o rest K s b want:=h
theorem qy8{c:Code}{Q:Exit->AS->Prop}(h:AWp E rd N c Q s):AWp E rd N c Q s:=h
end
end Go.Av
namespace Go.Av
open Go Go.RowKit
structure qaf (E:Env) (o:Nat) (xs:List AV) (st:List AObj) (R:Bool->List AObj->Prop):Prop where
 run:∀(B0:Nat)(w0:World)(G:Gh)(vals:Array Value)(w:World),E.L B0 w0->zb B0 w0 G st w->RelL G xs vals->
  ∃(f:FuncId)(tmps:Array Value)(asg body:Code),(Instr.yield (G.ob o).blk vals).run E.P w=.ok (.round (G.ob o).blk f tmps asg body) w∧
   RoundIn (fw none) (0-1) E.P (G.ob o).blk f tmps asg body w λe w'=>∃(b:Bool)(G':Gh)(st':List AObj),e=.returned (.bool b)∧G.le G'∧zb B0 w0 G' st' w'∧R b st'
theorem qaf.mono{E:Env}{o:Nat}{xs:List AV}{st:List AObj}{R R':Bool->List AObj->Prop}(h:qaf E o xs st R)(hr:∀b st',R b st'->R' b st'):qaf E o xs st R':=
 ⟨λB0 w0 G vals w hL hA hR=>let ⟨f,tmps,asg,body,h1,h2⟩:=h.run B0 w0 G vals w hL hA hR
  ⟨f,tmps,asg,body,h1,h2.mono λ_ _ ⟨b,G',st',g1,g2,g3,g4⟩=>⟨b,G',st',g1,g2,g3,hr _ _ g4⟩⟩⟩
theorem qgb{E:Env}{N:Nat}{ops:Array Oper}{K:AS->Prop}{s:AS}{rest:List Oper}{d:Option Tmp}{T:TypeId}{p:String}{af:Array Edge}{x:Operand}{o:Nat}{xs:Array Operand}{ts:Array TypeId}(hx:qg N s x=.yd o)
  (h:qaf E o (xs.toList.map (qg N s)) s.st λb st'=>AOps E none N ops rest K (AS.put ⟨s.t,st',s.df⟩ d (Bv b))):AOps E none N ops (⟨d,.call ⟨.value x,xs,ts⟩,T,p,af,none⟩::rest) K s:=by
 refine qv rfl ⟨λB0 w0 G a w hL hI K' Q hK=>?_⟩;have he:=hI.eval_of hx;generalize hv:a.eval x=v at he
 cases he with
 |yd _ b hn hraw hb=>
  obtain⟨f,tmps,asg,body,h1,h2⟩:=h.run B0 w0 G _ w hL hI.agree (qfa hI xs);rw[hb]at h1 h2
  have hr:(execOp a.eval ⟨d,.call ⟨.value x,xs,ts⟩,T,p,af,none⟩).run E.P w=.ok (.round b f tmps asg body) w:=by
   generalize a.eval=ρ at hv h1;simp[execOp,resolve,Deferred.ofValue,hv,invoke,h1]
  refine⟨λ_ _=>trivial,?_⟩;rw[qfb (λc h=>by simp at h),hr,Oper.uponIn_round];refine⟨λh=>by simp[fw,Fence.wide]at h,h2.mono ?_⟩;rintro e w' ⟨b,G',st',rfl,hG,hA,hk⟩;exact hK G' _ _ _ hG (hI.put hG hA d (.v _)) hk
def qkq(t:Nat->AV):List (Tmp×AV)->Nat->AV
 | []=>t
 |(p,x)::r=>qkq (put t p x) r
theorem q95{G:Gh}{N:Nat}:∀(ps:List Tmp)(xs:List AV)(vals:List Value)(t:Nat->AV)(tmps:Array Value),tmps.size=N->(∀(i:Nat)(y:Value),tmps[i]?=some y->Rel G (t i) y)->
  xs.length=vals.length->(∀(i:Nat)(x:AV)(y:Value),xs[i]?=some x->vals[i]?=some y->Rel G x y)->
  ((ps.zip vals).foldl (λ(tmps:Array Value)(x:Tmp×Value)=>tmps.setIfInBounds x.1 x.2) tmps).size=N∧
  ∀(i:Nat)(y:Value),((ps.zip vals).foldl (λ(tmps:Array Value)(x:Tmp×Value)=>tmps.setIfInBounds x.1 x.2) tmps)[i]?=some y->Rel G (qkq t (ps.zip xs) i) y:=by
 intro ps
 induction ps with
 |nil=>intro xs vals t tmps hs ht _ _;exact⟨by simpa using hs,by simpa[qkq]using ht⟩
 |cons p ps ih=>
  intro xs vals t tmps hs ht hl hr
  cases xs with
  |nil=>
   have:vals=[]:=Qp (by simpa using hl.symm);subst this
   exact⟨by simpa using hs,by simpa[qkq]using ht⟩
  |cons x xs=>
   cases vals with
   |nil=>simp at hl
   |cons v vals=>
    simp only[List.zip_cons_cons,List.foldl_cons,qkq];refine ih xs vals (put t p x) (tmps.setIfInBounds p v) (by simpa using hs) (λi y hy=>?_) (by simpa using hl) (λi x' y h1 h2=>hr (i+1) x' y (by simpa using h1) (by simpa using h2));rw[Qj]at hy;by_cases e:p=i
    .subst e
     rw[xh];by_cases hb:p<tmps.size
     .simp[hb]at hy;subst hy;exact hr 0 x v rfl rfl
     .simp[hb]at hy
    .rw[qai _ _ _ _ (Ne.symm e)]
     rw[if_neg e]at hy;exact ht i y hy
section
variable {B0 : Nat} {w0 : World} {G : Gh} {st : List AObj} {w : World}
theorem zb.putRaw(h:zb B0 w0 G st w){o:Nat}{x x':AObj}{y y':Obj}(ho:st[o]?=some x)(hx:x.live)(hraw:(G.ob o).raw=true)(hy:w.heap[(G.ob o).blk]?=some y)(hc:∀c T fz,y≠.cells c T fz)
  (g9:ObOk B0 G (w.putObj (G.ob o).blk y') o x'):zb B0 w0 G (st.set o x') (w.putObj (G.ob o).blk y'):=by
 have p9:∀k,k≠(G.ob o).blk->(w.putObj (G.ob o).blk y').heap[k]?=w.heap[k]?:=λk hk=>by
  simp only[World.putObj,Qj];rw[if_neg (Ne.symm hk)]
 have mz:=(h.ob o x ho).ge hx;refine⟨h.below.trans ⟨rfl,rfl,rfl,by simp[World.putObj],λk hk=>p9 k Om⟩,by simpa[World.putObj]using h.hB,by simp[h.n],λb vs hb=>?_,λk z hz=>?_,λk k' z z' d7 hz ml hl bq=>?_⟩
 .obtain⟨c,T,fz,tj,hv⟩:=h.pub b vs hb
  refine⟨c,T,fz,?_,hv⟩;rw[p9 b (λe=>by rw[e,hy]at tj;exact hc c T fz (by simpa using tj))];exact tj
 .rcases getElem?_set' _ _ _ _ _ hz with⟨rfl,rfl⟩|⟨d7,hz⟩
  .exact g9
  .exact(h.ob k z hz).mono (.refl G) rfl (λ_=>rfl) (λhl=>p9 _ (h.sep k o z _ d7 hz ho hl hx))
 .rcases getElem?_set' _ _ _ _ _ hz with⟨e1,e2⟩|⟨_,e2⟩
  .rcases getElem?_set' _ _ _ _ _ ml with⟨e3,_⟩|⟨_,e4⟩
   .exact absurd (e1.trans e3.symm) d7
   .rw[e1];exact h.sep o k' _ z' (λe=>d7 (e1.trans e)) ho e4 hx bq
  .rcases getElem?_set' _ _ _ _ _ ml with⟨e3,_⟩|⟨_,e4⟩
   .rw[e3];exact h.sep k o z _ (λe=>d7 (e.trans e3.symm)) e2 ho hl hx
   .exact h.sep k k' z z' d7 e2 e4 hl bq
end
@[reducible] def only (K : AS → Prop) : Exit → AS → Prop
 |.normal,s=>K s
 |_,_=>False
@[reducible] def zif (o N : Nat) (t : Nat → AV) (ps : Array Tmp) (asg body : Code) (R : Bool → List AObj → Prop) : Exit → AS → Prop
 |.normal,s=>s.st[o]?=some (.loop .busy none N t ps asg body)∧R true (s.st.set o (.loop .ready none N t ps asg body))
 |.ret,s=>s.st[o]?=some (.loop .busy none N t ps asg body)∧R false (s.st.set o (.loop .done (some .ret) N t ps asg body))
 |.exit id,s=>s.st[o]?=some (.loop .busy none N t ps asg body)∧R false (s.st.set o (.loop .done (some (.exit id)) N t ps asg body))
 |_,_=>False
theorem qgh{E:Env}{B0:Nat}{w0:World}{G:Gh}{st:List AObj}{w:World}(h:zb B0 w0 G st w){o N:Nat}{t:Nat->AV}{ps:Array Tmp}{asg body:Code}{ls:LoopState}{pend:Option Code}(ho:st[o]?=some (.loop ls pend N t ps asg body))(jump:Option Code):
  ∃w',(Instr.endRound (G.ob o).blk jump).run E.P w=.ok (.bool jump.isNone) w'∧zb B0 w0 G (st.set o (.loop (if jump.isNone then .ready else .done) jump N t ps asg body)) w':=by
 obtain⟨h1,h2,r,h3,h4,h5,h6,h7,h8,h9,p7⟩:=h.ob o _ ho;have e8:(G.ob o).blk<w.heap.size:=(h.ob o _ ho).lt trivial;refine⟨w.putObj (G.ob o).blk (.loop {r with state:=if jump.isNone then .ready else .done,pending:=jump}),by simp[Instr.endRound,Instr.getLoop,getObj,setObj,Sem.run,h3,World.putObj],?_⟩;refine h.putRaw ho trivial h1 h3 Sx ⟨h1,h2,{r with state:=if jump.isNone then .ready else .done,pending:=jump},?_,rfl,rfl,h6,h7,h8,h9,p7⟩;simp[World.putObj,e8]
theorem q10{E:Env}{o N:Nat}{t:Nat->AV}{ps:Array Tmp}{asg body:Code}{st:List AObj}{R:Bool->List AObj->Prop}{xs:List AV}(ho:st[o]?=some (.loop .ready none N t ps asg body))(hps:ps.size=xs.length)
  (h:∀l,AWp E (some l) N asg (only λs1=>s1.st[o]?=some (.loop .ready none N t ps asg body)∧s1.df=[]∧AWp E (some l) N body (zif o N t ps asg body R) ⟨s1.t,s1.st.set o (.loop .busy none N t ps asg body),[]⟩) ⟨qkq t (ps.toList.zip xs),st,[]⟩):qaf E o xs st R:=by
 refine⟨λB0 w0 G vals w hL hA hR=>?_⟩;obtain⟨h1,h2,r,h3,h4,h5,h6,h7,h8,h9,p7⟩:=hA.ob o _ ho;have o9:vals.size=r.params.size:=by rw[h6,hps,hR.1]
 refine⟨r.fn,(r.params.zip vals).foldl (λtmps(t,a)=>tmps.setIfInBounds t a) r.tmps,r.assign,r.body,by simp[Instr.yield,Instr.getLoop,getObj,Sem.run,h3,o9],?_⟩;have mj:=q95 (G:=G) (N:=N) ps.toList xs vals.toList t r.tmps h9 p7 (by simpa using hR.1) (λi x y hx hy=>hR.2 i x y hx (by simpa using hy))
 have he:(r.params.zip vals).foldl (λtmps(t,a)=>tmps.setIfInBounds t a) r.tmps=(ps.toList.zip vals.toList).foldl (λ(tmps:Array Value)(x:Tmp×Value)=>tmps.setIfInBounds x.1 x.2) r.tmps:=by
  rw[h6,<-Array.foldl_toList,Array.toList_zip]
 rw[he,h7,h8];refine roundIn_of_wpIn trivial (wpIn_mono ((h (G.ob o).blk).run B0 w0 G _ w hL ⟨hA,⟨rfl,nofun⟩,mj.1,mj.2⟩) ?_);rintro e a1 w1 ⟨G1,s1,hG1,nj,hQ⟩
 cases e with
 |normal=>
  obtain⟨g1,g2,g3⟩:=hQ;obtain⟨k1,k2,r1,k3,k4,k5,k6,k7,k8,k9,k10⟩:=nj.agree.ob o _ g1;have fj:G1.ob o=G.ob o:=hG1.raw o (by rw[hA.n];exact lt_of_getElem? ho) h1;rw[fj]at k3;have e8:(G1.ob o).blk<w1.heap.size:=(nj.agree.ob o _ g1).lt trivial;refine⟨w1.putObj (G.ob o).blk (.loop {r1 with state:=.busy}),by simp[Instr.beginRound,Instr.getLoop,getObj,setObj,Sem.run,k3,k4,World.putObj],?_⟩
  have gq:zb B0 w0 G1 (s1.st.set o (.loop .busy none N t ps asg body)) (w1.putObj (G1.ob o).blk (.loop {r1 with state:=.busy})):=by
   refine nj.agree.putRaw g1 trivial k1 (by rw[fj];exact k3) Sx ⟨k1,k2,{r1 with state:=.busy},?_,rfl,k5,k6,k7,k8,k9,k10⟩;simp[World.putObj,e8]
  have hd:a1.defers=[]:=by rw[nj.defers.1,g2];rfl
  rw[<-fj]at g3⊢;refine wpIn_mono (g3.run B0 w0 G1 a1 _ hL ⟨gq,⟨by rw[hd];rfl,nofun⟩,nj.size,nj.tmps⟩) ?_;rintro e a2 w2 ⟨G2,s2,sw,rv,hQ2⟩;have mf:∀{ls pend},s2.st[o]?=some (.loop ls pend N t ps asg body)->G2.ob o=G1.ob o:=λ{ls pend}_=>sw.raw o (by rw[nj.agree.n];exact lt_of_getElem? g1) k1
  cases e with
  |normal=>
   obtain⟨q1,q2⟩:=hQ2;obtain⟨w3,e1,e2⟩:=qgh (E:=E) rv.agree q1 none;rw[mf q1]at e1
   exact⟨_,w3,e1,true,G2,_,rfl,hG1.trans sw,e2,q2⟩
  |ret=>
   obtain⟨q1,q2⟩:=hQ2;obtain⟨w3,e1,e2⟩:=qgh (E:=E) rv.agree q1 (some .ret);rw[mf q1]at e1
   exact⟨_,w3,e1,false,G2,_,rfl,hG1.trans sw,e2,q2⟩
  |exit id=>
   obtain⟨q1,q2⟩:=hQ2;obtain⟨w3,e1,e2⟩:=qgh (E:=E) rv.agree q1 (some (.exit id));rw[mf q1]at e1
   exact⟨_,w3,e1,false,G2,_,rfl,hG1.trans sw,e2,q2⟩
  |_=>exact hQ2.elim
 |_=>exact hQ.elim
def AEnd(E:Env)(N:Nat)(Q:Exit->AS->Prop)(t:Nat->AV)(df:List Nat)(od ol:Nat)(ps:Array Tmp)(asg body:Code)(st':List AObj):Prop:=
 ∃ls pend,ls≠LoopState.busy∧st'[ol]?=some (.loop ls pend N t ps asg body)∧
  match pend with
  |none=>Q .normal ⟨t,st'.set ol .dead,od::df⟩
  |some c=>AWp E none N c Q ⟨t,st'.set ol .dead,od::df⟩
theorem zb.newAny{B0:Nat}{w0:World}{G:Gh}{st:List AObj}{w:World}(h:zb B0 w0 G st w)(cap:Nat)(raw:Bool)(x:AObj)(y:Obj)(hx:ObOk B0 (G.new 0 w.heap.size cap raw) (w.alloc y) st.length x):
  zb B0 w0 (G.new 0 w.heap.size cap raw) (st++[x]) (w.alloc y):=by
 have d8:=G.le_new 0 w.heap.size cap raw
 have e9:∀o z,st[o]?=some z->(G.new 0 w.heap.size cap raw).ob o=G.ob o:=λo z hz=>by
  have:=lt_of_getElem? hz;have:=h.n;simp[Gh.new,show o≠G.n by omega]
 have r9:(G.new 0 w.heap.size cap raw).ob st.length=⟨0,w.heap.size,cap,raw⟩:=by simp[Gh.new,h.n]
 refine⟨h.below.alloc h.hB _,by simp;have:=h.hB;omega,by simp[Gh.new,h.n],λb vs hb=>?_,λo z hz=>?_,λo o' z z' d7 hz ml hl bq=>?_⟩
 .rw[yu w _ b (h.pub_lt hb)];exact h.pub b vs hb
 .rw[getElem?_snoc]at hz
  by_cases ho:o<st.length
  .rw[if_pos ho]at hz
   exact(h.ob o z hz).mono d8 (e9 o z hz) (λ_=>rfl) (λhl=>yu w _ _ ((h.ob o z hz).lt hl))
  .rw[if_neg ho]at hz
   by_cases e7:o=st.length
   .subst e7
    rw[if_pos rfl]at hz;simp only[Qb]at hz;subst hz;exact hx
   .rw[if_neg e7]at hz;simp at hz
 .rw[getElem?_snoc]at hz ml
  by_cases ho:o<st.length
  .rw[if_pos ho]at hz
   by_cases dw:o'<st.length
   .rw[if_pos dw]at ml
    rw[e9 o z hz,e9 o' z' ml];exact h.sep o o' z z' d7 hz ml hl bq
   .rw[if_neg dw]at ml
    by_cases ho3:o'=st.length
    .subst ho3
     rw[e9 o z hz,r9];have:=(h.ob o z hz).lt hl;exact Qz this
    .rw[if_neg ho3]at ml;simp at ml
  .rw[if_neg ho]at hz
   by_cases e7:o=st.length
   .subst e7
    by_cases dw:o'<st.length
    .rw[if_pos dw]at ml
     rw[e9 o' z' ml,r9];have:=(h.ob o' z' ml).lt bq;exact Zw this
    .rw[if_neg dw]at ml
     by_cases ho3:o'=st.length
     .omega
     .rw[if_neg ho3]at ml;simp at ml
   .rw[if_neg e7]at hz;simp at hz
theorem qxu(P:Program)(w:World)(fn:FuncId)(tmps:Array Value)(ps:Array Tmp)(asg body:Code):
  (Instr.enterLoop fn tmps ps asg body none).run P w=.ok (w.heap.size+1,[{target:=.collected w.heap.size,args:= #[]}])
   ((w.alloc (.deferred (some []))).alloc (.loop {state:=.ready,pending:=none,fn,tmps,params:=ps,assign:=asg,body,defers:=w.heap.size})):=by
 simp[Instr.enterLoop,newObj,Sem.run]
theorem qxo{E:Env}{B0:Nat}{w0:World}{G:Gh}{st:List AObj}{w:World}(h:zb B0 w0 G st w){o N:Nat}{t:Nat->AV}{ps:Array Tmp}{asg body:Code}{ls:LoopState}{pend:Option Code}(ho:st[o]?=some (.loop ls pend N t ps asg body))(hl:ls≠.busy):
  ∃w',(Instr.endLoop (G.ob o).blk).run E.P w=.ok pend w'∧zb B0 w0 G (st.set o .dead) w':=by
 obtain⟨h1,h2,r,h3,h4,h5,h6,h7,h8,h9,p7⟩:=h.ob o _ ho;refine⟨w.putObj (G.ob o).blk (.loop {r with state:=.exhausted}),?_,h.putRaw ho trivial h1 h3 Sx trivial⟩;simp[Instr.endLoop,Instr.getLoop,getObj,setObj,Sem.run,h3,h5,World.putObj];intro hh;rw[h4]at hh;exact absurd hh hl
theorem qxl{E:Env}{N:Nat}{Q:Exit->AS->Prop}{s:AS}{f:Operand}{ps:Array Tmp}{asg body:Code}{st loc:List AObj}{g:FuncId}{fs cs:List AV}(d9:s.st=st++loc)(hx:qg N s f=.fn (.func g) fs cs)
  (a8:∀vs w,(callFunc g vs).run E.P w=.ok (.enter g vs) w)
  (h:qm E g (fs++[.yd (st.length+(loc.length+1))]++cs) (st++(loc++[.dfr,.loop .ready none N s.t ps asg body])) λ_ st'=>AEnd E N Q s.t s.df (st.length+loc.length) (st.length+(loc.length+1)) ps asg body st'):AWp E none N (.rangeFunc f ps asg body) Q s:=by
 refine⟨λB0 w0 G a w hL hI=>wpIn_rangeFunc λfn _=>?_⟩;have he:=hI.eval_of hx;generalize hv:a.eval f=v at he
 cases he with
 |fn _ _ _ fs' cs' h1 h2 h3 h4=>
  have hn:=hI.agree.n
  -- the two blocks
  have gq:=hI.agree.newAny 0 true .dfr (.deferred (some [])) ⟨by simp[Gh.new,hn],by simp[Gh.new,hn];exact hI.agree.hB,by
   have e:((G.new 0 w.heap.size 0 true).ob s.st.length).blk=w.heap.size:=by simp[Gh.new,hn]
   rw[e];exact ww w _⟩
  have bc:=G.le_new 0 w.heap.size 0 true;generalize hG1:G.new 0 w.heap.size 0 true=G1 at gq bc;have hn1:=gq.n;have hsz1:(w.alloc (.deferred (some []))).heap.size=w.heap.size+1:=Sx
  have mq:=gq.newAny 0 true (.loop .ready none N s.t ps asg body) (.loop {state:=.ready,pending:=none,fn,tmps:=a.tmps,params:=ps,assign:=asg,body,defers:=w.heap.size})
   ⟨by simp[Gh.new,hn1],by simp[Gh.new,hn1];have:=hI.agree.hB;omega,{state:=.ready,pending:=none,fn,tmps:=a.tmps,params:=ps,assign:=asg,body,defers:=w.heap.size},by
    have e:((G1.new 0 (w.alloc (.deferred (some []))).heap.size 0 true).ob (s.st++[AObj.dfr]).length).blk=(w.alloc (.deferred (some []))).heap.size:=by simp[Gh.new,hn1]
    rw[e];exact ww _ _,rfl,rfl,rfl,rfl,rfl,hI.size,λi y hy=>((hI.tmps i y hy).mono bc).mono (G1.le_new _ _ _ _)⟩
  have br:=bc.trans (G1.le_new 0 (w.alloc (.deferred (some []))).heap.size 0 true)
  have hob1:(G1.new 0 (w.alloc (.deferred (some []))).heap.size 0 true).ob s.st.length=⟨0,w.heap.size,0,true⟩:=by
   simp[Gh.new,<-hG1,hn]
  have mf:(G1.new 0 (w.alloc (.deferred (some []))).heap.size 0 true).ob (s.st.length+1)=⟨0,w.heap.size+1,0,true⟩:=by
   simp[Gh.new,hn1]
  have hn2:=mq.n;generalize G1.new 0 (w.alloc (.deferred (some []))).heap.size 0 true=G2 at mq br hob1 mf hn2;have b9:s.st.length=st.length+loc.length:=by rw[d9];simp
  rw[d9]at mq hn2;have hst2:st++loc++[AObj.dfr]++[.loop .ready none N s.t ps asg body]=st++(loc++[.dfr,.loop .ready none N s.t ps asg body]):=Sx
  rw[hst2]at mq hn2;rw[b9]at hob1 mf;rw[show st.length+loc.length+1=st.length+(loc.length+1)by omega]at mf;have hyd:Rel G2 (.yd (st.length+(loc.length+1))) (.func (.yield (w.heap.size+1)) #[] #[]):=.yd _ _ (by rw[hn2];simp) (by rw[mf]) (by rw[mf])
  have rz:RelL G2 (fs++[.yd (st.length+(loc.length+1))]++cs) (fs'++ #[.func (.yield (w.heap.size+1)) #[] #[]]++cs'):=by
   refine⟨by simp[h1,h2];omega,λi x y g1 g2=>?_⟩;rw[Qi]at g2;by_cases hi:i<(fs'++ #[Value.func (.yield (w.heap.size+1)) #[] #[]]).size
   .rw[if_pos hi]at g2
    rw[Qa (by simp at hi⊢;omega)]at g1;rw[Qi]at g2;by_cases mc:i<fs'.size
    .rw[if_pos mc]at g2
     rw[Qa Om]at g1;exact(h3 i x y g1 g2).mono br
    .rw[if_neg mc]at g2
     rw[Qc Om,h1]at g1;have:i-fs'.size=0:=by simp at hi;omega
     rw[this]at g1 g2;simp at g1 g2;subst g1;subst g2;exact hyd
   .rw[if_neg hi]at g2
    rw[Qc (by simp at hi⊢;omega)]at g1;refine(h4 _ x y g1 ?_).mono br;rw[<-g2];congr 1;simp[h1]
  have mb:=qxu E.P w fn a.tmps ps asg body;generalize(w.alloc (.deferred (some []))).alloc (.loop {state:=.ready,pending:=none,fn,tmps:=a.tmps,params:=ps,assign:=asg,body,defers:=w.heap.size})=W at mb mq;have hcall:=h.run B0 w0 G2 _ W hL mq rz;generalize hav:fs'++ #[Value.func (.yield (w.heap.size+1)) #[] #[]]++cs'=av at hcall;refine⟨w.heap.size+1,[{target:=.collected w.heap.size,args:= #[]}],W,⟨.fn (.func g) cs',fs'++ #[.func (.yield (w.heap.size+1)) #[] #[]]⟩,W,g,av,W,mb,?_,λ_ _=>trivial,?_,λh=>by simp[fw,Fence.wide]at h,qih (hcall.mono ?_)⟩
  .have hc:a.eval (.const (.func (.yield (w.heap.size+1)) #[] #[]))=.func (.yield (w.heap.size+1)) #[] #[]:=rfl
   generalize a.eval=ρ at hv hc;simp[resolve,Deferred.ofValue,hv,hc]
  .simp[invoke,a8,<-hav]
  .rintro e w3 ⟨v,G3,r,st',rfl,hG3,hA3,_,ls,pend,hls,sj,pj⟩
   obtain⟨w4,e1,e2⟩:=qxo (E:=E) hA3 sj hls;have td:G3.ob (st.length+(loc.length+1))=G2.ob (st.length+(loc.length+1)):=hG3.raw _ (by rw[hn2];simp) (by rw[mf]);have db:G3.ob (st.length+loc.length)=G2.ob (st.length+loc.length):=hG3.raw _ (by rw[hn2];simp) (by rw[hob1]);rw[td,mf]at e1;have hle3:=br.trans hG3;have hdef:=hI.defers_mono hle3
   have hI4:Inv B0 w0 N G3 ⟨s.t,st'.set (st.length+(loc.length+1)) .dead,(st.length+loc.length)::s.df⟩ {a with defers:=[{target:=.collected w.heap.size,args:= #[]}]++a.defers} w4:=by
    refine⟨e2,⟨?_,λo ho=>?_⟩,hI.size,λi y hy=>(hI.tmps i y hy).mono hle3⟩
    .rw[hdef.1]
     simp[db,hob1]
    .rcases List.mem_cons.1 ho with rfl|ho
     .refine⟨Qd (by rw[hn2];simp) hG3.n,by rw[db,hob1]⟩
     .exact hdef.2 o ho
   refine⟨pend,w4,e1,?_⟩
   cases pend with
   |none=>exact⟨G3,_,hle3,hI4,pj⟩
   |some c=>
    refine wpIn_mono (pj.run B0 w0 G3 _ w4 hL hI4) ?_;rintro e a5 w5 ⟨G5,s5,hG5,hI5,hQ5⟩;exact⟨G5,s5,hle3.trans hG5,hI5,hQ5⟩
end Go.Av
namespace Go.Av
open Go Go.RowKit
section
variable {E : Env} {rd : Option Nat} {N : Nat} {ops : Array Oper} {K : AS → Prop} {s : AS} {rest : List Oper} {d : Option Tmp} {T : TypeId} {p : String} {af : Array Edge}
theorem qeu{x:Operand}{t t' u:TypeId}{y:AV}{ms:Array (String×TypeId)}(hx:qg N s x=.ifc u y)(hu:E.P.underlying t=some (.interface ms))
  (h:AOps E rd N ops rest K (s.put d (Bv false))):AOps E rd N ops (⟨d,.binOp .eql t x (.const .nilIface) t',T,p,af,none⟩::rest) K s:=by
 refine qv rfl (qu nofun λB0 w0 G a w _ hI=>?_);have he:=hI.eval_of hx;generalize hv:a.eval x=v at he
 cases he with
 |ifc _ _ z hz=>
  refine⟨.bool false,w,G,Bv false,s.st,?_,.refl G,hI.agree,.v _,h⟩;have hc:a.eval (.const .nilIface)=.nilIface:=rfl;generalize a.eval=ρ at hv hc;have hq:=run_eql_held_nil (P:=E.P) (w:=w) t u z (by rw[hu];simp[Program.methodsAt,hu]);simp[execOp,hv,hc,eqGuard_at_iface,hq]
theorem wq{x:Operand}{t t' u:TypeId}{y:AV}{ms:Array (String×TypeId)}(hx:qg N s x=.ifc u y)(hu:E.P.underlying t=some (.interface ms))
  (h:AOps E rd N ops rest K (s.put d (Bv true))):AOps E rd N ops (⟨d,.binOp .neq t x (.const .nilIface) t',T,p,af,none⟩::rest) K s:=by
 refine qv rfl (qu nofun λB0 w0 G a w _ hI=>?_);have he:=hI.eval_of hx;generalize hv:a.eval x=v at he
 cases he with
 |ifc _ _ z hz=>
  refine⟨.bool true,w,G,Bv true,s.st,?_,.refl G,hI.agree,.v _,h⟩;have hc:a.eval (.const .nilIface)=.nilIface:=rfl;generalize a.eval=ρ at hv hc;have hq:=run_neq_held_nil (P:=E.P) (w:=w) t u z (by rw[hu];simp[Program.methodsAt,hu]);simp[execOp,hv,hc,eqGuard_at_iface,hq]
theorem qew{x:Operand}{t t':TypeId}{ms:Array (String×TypeId)}(hx:qg N s x=.v .nilIface)(hu:E.P.underlying t=some (.interface ms))
  (h:AOps E rd N ops rest K (s.put d (Bv true))):AOps E rd N ops (⟨d,.binOp .eql t x (.const .nilIface) t',T,p,af,none⟩::rest) K s:=
 jg _ rfl nofun (λρ w he=>by
  have h1:=he _ _ hx;have h2:=he (.const .nilIface) _ rfl;have hq:=run_eql_nil_nil (P:=E.P) (w:=w) t (by rw[hu];simp[Program.methodsAt,hu])
  simp[execOp,h1,h2,eqGuard_nil_constR,hq]) h
theorem vp{x:Operand}{t t':TypeId}{ms:Array (String×TypeId)}(hx:qg N s x=.v .nilIface)(hu:E.P.underlying t=some (.interface ms))
  (h:AOps E rd N ops rest K (s.put d (Bv false))):AOps E rd N ops (⟨d,.binOp .neq t x (.const .nilIface) t',T,p,af,none⟩::rest) K s:=
 jg _ rfl nofun (λρ w he=>by
  have h1:=he _ _ hx;have h2:=he (.const .nilIface) _ rfl;have hq:=run_neq_nil_nil (P:=E.P) (w:=w) t (by rw[hu];simp[Program.methodsAt,hu])
  simp[execOp,h1,h2,eqGuard_nil_constR,hq]) h
def lenA:AV->Option Nat
 |.sl _ xs _=>some xs.length
 |.os _ _ _ len _=>some len
 |.v (.slice _ n _)=>some n
 |_=>none
theorem kc{x:Operand}{ts:Array TypeId}{t0 e:TypeId}{v:AV}{n:Nat}(hx:qg N s x=v)(hl:lenA v=some n)(ht:ts[0]?=some t0)(hu:E.P.underlying t0=some (.slice e))
  (h:AOps E rd N ops rest K (s.put d (Iv n))):AOps E rd N ops (⟨d,.call ⟨.builtin .len,#[x],ts⟩,T,p,af,none⟩::rest) K s:=by
 refine qv rfl (qu nofun λB0 w0 G a w _ hI=>?_);have he:=hI.eval_of hx
 have key:∃b c,a.eval x=.slice b n c:=by
  generalize a.eval x=u at he
  cases he<;>simp[lenA]at hl
  case v y=>
   cases u<;>simp at hl
   subst hl;exact⟨_,_,rfl⟩
  case sl0=>subst hl;exact⟨_,_,rfl⟩
  case sl=>subst hl;exact⟨_,_,rfl⟩
  case os=>subst hl;exact⟨_,_,rfl⟩
 obtain⟨b,c,hv⟩:=key;refine⟨.int .i64 n,w,G,Iv n,s.st,?_,.refl G,hI.agree,.v _,h⟩;generalize a.eval=ρ at hv;simp[execOp,resolve,invoke,builtin,Builtin.len_,hv,ht,run_underlying hu,goInt]
theorem qbj(x:AV)(xs:List AV):flat (x::xs)=x.cells++flat xs:=rfl
theorem xn(xs ys:List AV):flat (xs++ys)=flat xs++flat ys:=by simp[flat]
theorem jh{sz:Nat}:∀{xs:List AV},(∀x∈xs,x.cells.length=sz)->(flat xs).length=xs.length*sz:=by
 intro xs
 induction xs with
 |nil=>intro _;simp[flat]
 |cons x xs ih=>
  intro h;rw[qbj,Qh,h x Sx,ih (λy hy=>h y (by simp[hy])),List.length_cons,Zh,Nat.add_comm]
theorem qjd{sz:Nat}:∀{xs:List AV},(∀x∈xs,x.cells.length=sz)->∀{k:Nat}{x:AV},xs[k]?=some x->∀j,j<sz->(flat xs)[k*sz+j]?=x.cells[j]?:=by
 intro xs
 induction xs with
 |nil=>intro _ k x hx;simp at hx
 |cons y xs ih=>
  intro h k x hx j hj;have hy:=h y Sx
  cases k with
  |zero=>
   simp at hx;subst hx
   rw[qbj,Nat.zero_mul,Zb,Qa Om]
  |succ k=>
   rw[qbj,Qc (by rw[hy,Zh];omega),hy];rw[show(k+1)*sz+j-sz=k*sz+j by rw[Zh];omega];exact ih (λz hz=>h z (by simp[hz])) (by simpa using hx) j hj
theorem wv{x y:Operand}{t e:TypeId}{sz:Nat}{agg:Bool}{xs:List AV}{tip:Option Nat}{k:IntKind}{i:Int}{n:Nat}{z:AV}(hx:qg N s x=.sl sz xs tip)(hy:qg N s y=.v (.int k i))(hu:E.P.underlying t=some (.slice e))(ht:tyOf E.P e=some (sz,agg))(hi:i=n)(hz:xs[n]?=some z)
  (h:AOps E rd N ops rest K (s.put d (.pp z.cells))):AOps E rd N ops (⟨d,.indexAddr t x y,T,p,af,none⟩::rest) K s:=by
 refine qv rfl (qu nofun λB0 w0 G a w _ hI=>?_);subst hi;have he:=hI.eval_of hx;have gr:=hI.evalv hy;generalize hv:a.eval x=v at he;have e8:=lt_of_getElem? hz
 cases he with
 |sl0=>simp at hz
 |sl _ _ _ b off cap pub hp hw b9 m8 htip s4=>
  have pf:z.cells.length=sz:=hw z (Qf hz);have r6:=jh hw;have d8:(n+1)*sz<=xs.length*sz:=Zn _ e8;rw[Zh]at d8;refine⟨.pointer (some ⟨b,off+n*sz,none⟩),w,G,.pp z.cells,s.st,?_,.refl G,hI.agree,?_,h⟩
  .generalize a.eval=ρ at hv gr
   simp only[execOp,hv,gr];simp[Instr.indexAt,asIntOf,run_underlying hu,e8,(vj ht w).1,Addr.add_lit]
  .refine .pp _ b _ pub hp Om λj q r h1 h2=>?_
   have hj:j<sz:=by have:=lt_of_getElem? h1;omega
   have hf:=qjd hw hz j hj;exact m8 (n*sz+j) q r (by rw[hf];exact h1) (by rw[<-h2];congr 1;omega)
theorem qia{x y:Operand}{t e:TypeId}{sz:Nat}{agg:Bool}{o ver off len cp:Nat}{k:IntKind}{i:Int}{n:Nat}(hx:qg N s x=.os o ver off len cp)(hy:qg N s y=.v (.int k i))(hu:E.P.underlying t=some (.slice e))(ht:tyOf E.P e=some (sz,agg))(hi:i=n)(hn:n<len)
  (h:AOps E rd N ops rest K (s.put d (.bx o ver (off+n*sz)))):AOps E rd N ops (⟨d,.indexAddr t x y,T,p,af,none⟩::rest) K s:=by
 refine qv rfl (qu nofun λB0 w0 G a w _ hI=>?_);subst hi;have he:=hI.eval_of hx;have gr:=hI.evalv hy;generalize hv:a.eval x=v at he
 cases he with
 |os _ _ _ _ b cap sf dk hb=>
  refine⟨.pointer (some ⟨b,off+n*sz,none⟩),w,G,_,s.st,?_,.refl G,hI.agree,.bx o ver _ b sf dk hb,h⟩;generalize a.eval=ρ at hv gr;simp only[execOp,hv,gr];simp[Instr.indexAt,asIntOf,run_underlying hu,hn,(vj ht w).1,Addr.add_lit]
def puts(t:Nat->AV):List (Nat×AV)->Nat->AV
 | []=>t
 |(i,v)::r=>put (puts t r) i v
def HasL(t:Nat->AV):List (Nat×AV)->Prop
 | []=>True
 |(i,v)::r=>t i=v∧HasL t r
def StA(L:List (Nat×AV))(st:List AObj)(df:List Nat)(s:AS):Prop:=∃t,s=⟨puts t L,st,df⟩
theorem zc1(t:Nat->AV)(i:Nat):put t i (t i)=t:=by
 funext j;by_cases h:j=i
 .subst h;rw[xh]
 .rw[qai _ _ _ _ h]
theorem qi2{t:Nat->AV}:∀{L:List (Nat×AV)},HasL t L->puts t L=t
 | [],_=>rfl
 |(i,v)::r,h=>by
  simp only[puts];rw[qi2 h.2,<-h.1,zc1]
theorem xp{t:Nat->AV}{L:List (Nat×AV)}{st:List AObj}{df:List Nat}(h:HasL t L):StA L st df ⟨t,st,df⟩:=⟨t,by rw[qi2 h]⟩
theorem xy{σ:Type}{c:Code}{Q:Exit->AS->Prop}(I:σ->AS->Prop)(μ:σ->Nat)(x0:σ)(h0:I x0 s)
  (hr:∀x s,I x s->AWp E rd N c (quf (λs'=>∃x',I x' s'∧μ x'<μ x) Q) s):AWp E rd N (.loop c) Q s:=by
 refine⟨λB0 w0 G a w hL hI b k cs hro hb i9=>?_⟩
 have key:∀n(x:σ)(s:AS)(G:Gh)(a:Act)(w:World),μ x=n->I x s->Inv B0 w0 N G s a w->
   ∃e a' w',(∃(G':Gh)(s':AS),G.le G'∧Inv B0 w0 N G' s' a' w'∧Q e s')∧ArrivesIn (Machine.fenced E.P (fw rd)) E.P (lone (b.atR a (.code c:: .inLoop c::k)) cs w) b k cs e a' w':=by
  intro n
  induction n using Nat.strongRecOn with
  |_ n ih=>
   intro x s G a w hn hs hI;obtain⟨e,a1,w1,⟨G1,s1,hG,nj,hQ⟩,ck⟩:=(hr x s hs).run B0 w0 G a w hL hI b (.inLoop c::k) cs hro hb i9
   cases e with
   |normal=>
    obtain⟨x1,hs1,e8⟩:=hQ;obtain⟨e2,a2,w2,⟨G2,s2,sw,rv,hQ2⟩,harr2⟩:=ih _ (hn▸e8) x1 s1 G1 a1 w1 rfl hs1 nj
    exact⟨e2,a2,w2,⟨G2,s2,hG.trans sw,rv,hQ2⟩,.of_steps (StepsIn.trans ck (.one (fenced_calm hb i9 rfl) stepR_inLoop)) harr2⟩
   |exit id=>exact⟨_,a1,w1,⟨G1,s1,hG,nj,hQ⟩,.pass (x:=.inLoop c) rfl (λ_ _=>.inl Sx) ck⟩
   |goto l=>exact⟨_,a1,w1,⟨G1,s1,hG,nj,hQ⟩,.pass (x:=.inLoop c) rfl (λ_ _=>.inl Sx) ck⟩
   |ret=>exact⟨_,a1,w1,⟨G1,s1,hG,nj,hQ⟩,.pass (x:=.inLoop c) rfl (λ_ _=>.inl Sx) ck⟩
   |panic ch=>exact⟨_,a1,w1,⟨G1,s1,hG,nj,hQ⟩,.pass (x:=.inLoop c) rfl (λ_ _=>.inl Sx) ck⟩
   |outgrown=>exact⟨_,a1,w1,⟨G1,s1,hG,nj,hQ⟩,.pass (x:=.inLoop c) rfl (λ_ _=>.inl Sx) ck⟩
 obtain⟨e,a',w',hq,ck⟩:=key _ x0 s G a w rfl h0 hI;exact⟨e,a',w',hq,.of_steps (.one (fenced_calm hb i9 rfl) stepR_loop) ck⟩
theorem qk{f:FuncId}{xs:Array Operand}{ts:Array TypeId}{r:AV}{st':List AObj}(a8:∀vs w,(callFunc f vs).run E.P w=.ok (.enter f vs) w)
  (hc:qm E f (xs.toList.map (qg N s)) s.st λa st1=>a=r∧st1=st') (h:AOps E rd N ops rest K (AS.put ⟨s.t,st',s.df⟩ d r)):AOps E rd N ops (⟨d,.call ⟨.value (.func f),xs,ts⟩,T,p,af,none⟩::rest) K s:=
 qfe a8 (hc.mono λa st1 ⟨h1,h2⟩=>by rw[h1,h2];exact h)
theorem jl{st loc:List AObj}{k:Nat}{x:AObj}(h:loc[k]?=some x):(st++loc)[st.length+k]?=some x:=by
 rw[Qc (Zt _ _),Zj];exact h
theorem x9(st loc:List AObj)(k:Nat)(x:AObj):(st++loc).set (st.length+k) x=st++loc.set k x:=by
 rw[List.set_append_right _ _ (Zt _ _),Zj]
theorem ve{x:Operand}{t:TypeId}{sz:Nat}{agg:Bool}{st loc:List AObj}{k ver off:Nat}{T':TypeId}{cs:List AV}{r:AV}(hs:s.st=st++loc)(hx:qg N s x=.bx (st.length+k) ver off)(ho:loc[k]?=some (.cells ver T' cs))(ht:tyOf E.P t=some (sz,agg))(hr:jy sz agg off cs=some r)
  (h:AOps E rd N ops rest K (s.put d r)):AOps E rd N ops (⟨d,.load t x,T,p,af,none⟩::rest) K s:=
 kh hx (by rw[hs];exact jl ho) ht hr h
theorem zdf{st:List AObj}{o:Nat}{x:AObj}(h:st[o]?=some x):st.set o x=st:=by
 apply Zd;intro k;by_cases e:o=k
 .subst e;rw[Zl (lt_of_getElem? h)];exact h.symm
 .rw[Qo e]
theorem ke{st:List AObj}{o:Nat}{x y:AObj}(h:st[o]?=some x):(st.set o y)[o]?=some y:=by
 have:=lt_of_getElem? h;simp[this]
theorem kq{st:List AObj}{o k:Nat}{x y:AObj}(h:st[k]?=some x)(d7:o≠k):(st.set o y)[k]?=some x:=by
 rw[Qo d7];exact h
def va(xs:List AV):Bool:=xs.all AV.one
theorem jt{x y:Operand}{t:TypeId}{sz:Nat}{agg:Bool}{st loc loc':List AObj}{k ver off:Nat}{T':TypeId}{cs xs:List AV}{r:AV}(hs:s.st=st++loc)(hx:qg N s x=.bx (st.length+k) ver off)(hy:qg N s y=r)(ho:loc[k]?=some (.cells ver T' cs))(ht:tyOf E.P t=some (sz,agg))
  (hok:r.okc=true) (hc:r.cells=xs) (o9:Qq xs.length sz=true) (h1:va xs=true) (o7:Zf (off+sz) cs.length=true) (hl:loc'=loc.set k (.cells ver T' (z0 cs off xs)))
  (h:AOps E rd N ops rest K (AS.put ⟨s.t,st++loc',s.df⟩ d (.v undef))):AOps E rd N ops (⟨d,.store t x y,T,p,af,none⟩::rest) K s:=
 qif hx hy (by rw[hs];exact jl ho) ht hok hc (Qv o9) (by simpa[va]using h1) (Qm o7) (by rw[hs,x9,<-hl];exact h)
theorem qb6{x:Operand}{t:TypeId}{sz:Nat}{agg:Bool}{st loc:List AObj}{n k ver off:Nat}{T':TypeId}{cs:List AV}{r:AV}(hs:s.st=st++loc)(hn:st.length=n)(hx:qg N s x=.bx (n+k) ver off)(ho:loc[k]?=some (.cells ver T' cs))(ht:tyOf E.P t=some (sz,agg))(hr:jy sz agg off cs=some r)
  (h:AOps E rd N ops rest K (s.put d r)):AOps E rd N ops (⟨d,.load t x,T,p,af,none⟩::rest) K s:=by
 subst hn;exact ve hs hx ho ht hr h
theorem qbc{x y:Operand}{t:TypeId}{sz:Nat}{agg:Bool}{st loc loc':List AObj}{n k ver off:Nat}{T':TypeId}{cs xs:List AV}{r:AV}(hs:s.st=st++loc)(hn:st.length=n)(hx:qg N s x=.bx (n+k) ver off)(hy:qg N s y=r)(ho:loc[k]?=some (.cells ver T' cs))(ht:tyOf E.P t=some (sz,agg))
  (hok:r.okc=true) (hc:r.cells=xs) (o9:Qq xs.length sz=true) (h1:va xs=true) (o7:Zf (off+sz) cs.length=true) (hl:loc'=loc.set k (.cells ver T' (z0 cs off xs)))
  (h:AOps E rd N ops rest K (AS.put ⟨s.t,st++loc',s.df⟩ d (.v undef))):AOps E rd N ops (⟨d,.store t x y,T,p,af,none⟩::rest) K s:=by
 subst hn;exact jt hs hx hy ho ht hok hc o9 h1 o7 hl h
theorem qcw{x:Operand}{t:TypeId}{sz:Nat}{agg:Bool}{st loc:List AObj}{o ver off:Nat}{T':TypeId}{cs:List AV}{r:AV}(hs:s.st=st++loc)(hx:qg N s x=.bx o ver off)(ho:st[o]?=some (.cells ver T' cs))(ht:tyOf E.P t=some (sz,agg))(hr:jy sz agg off cs=some r)
  (h:AOps E rd N ops rest K (s.put d r)):AOps E rd N ops (⟨d,.load t x,T,p,af,none⟩::rest) K s:=
 kh hx (by rw[hs,Qa (lt_of_getElem? ho)];exact ho) ht hr h
theorem yo{x y:Operand}{t:TypeId}{sz:Nat}{agg:Bool}{o ver off:Nat}{T':TypeId}{cs xs:List AV}{r:AV}(hx:qg N s x=.bx o ver off)(hy:qg N s y=r)(ho:s.st[o]?=some (.cells ver T' cs))(ht:tyOf E.P t=some (sz,agg))
  (hok:r.okc=true) (hc:r.cells=xs) (o9:Qq xs.length sz=true) (h1:va xs=true) (o7:Zf (off+sz) cs.length=true)
  (h:AOps E rd N ops rest K (AS.put ⟨s.t,s.st.set o (.cells ver T' (z0 cs off xs)),s.df⟩ d (.v undef))):AOps E rd N ops (⟨d,.store t x y,T,p,af,none⟩::rest) K s:=
 qif hx hy ho ht hok hc (Qv o9) (by simpa[va]using h1) (Qm o7) h
end
end Go.Av
namespace Go.Av
open Go Go.RowKit
@[reducible] def Uv (c : UInt8) : AV := .v (.int .u8 (c.toNat : Nat))
section
variable {E : Env} {rd : Option Nat} {N : Nat} {ops : Array Oper} {K : AS → Prop} {s : AS} {rest : List Oper} {d : Option Tmp} {T : TypeId} {p : String} {af : Array Edge}
theorem qlx{x y:Operand}{t:TypeId}{m:List UInt8}{k:IntKind}{n:Nat}(hx:qg N s x=Sv m)(hy:qg N s y=.v (.int k (n:Int)))(hu:E.P.underlying t=some .string)(h1:n<m.length)
  (h:AOps E rd N ops rest K (s.put d (Uv (m.getD n 0)))):AOps E rd N ops (⟨d,.index t x y,T,p,af,none⟩::rest) K s:=
 q1s hx hy hu Om Om (by simpa using h)
theorem qj5{x z:Operand}{t:TypeId}{k:IntKind}{l:List UInt8}{j:Nat}(hx:qg N s x=Sv l)(hz:qg N s z=.v (.int k (j:Int)))(hu:E.P.underlying t=some .string)(h2:j<=l.length)
  (h:AOps E rd N ops rest K (s.put d (Sv (l.take j)))):AOps E rd N ops (⟨d,.slice t x none (some z) none,T,p,af,none⟩::rest) K s:=
 qek (i:=0) (j:=j) hx hu rfl ⟨_,hz⟩ Om Om Om (by simpa using h)
theorem qnq{x z:Operand}{t:TypeId}{k:IntKind}{l:List UInt8}{i:Nat}(hx:qg N s x=Sv l)(hz:qg N s z=.v (.int k (i:Int)))(hu:E.P.underlying t=some .string)(h2:i<=l.length)
  (h:AOps E rd N ops rest K (s.put d (Sv (l.drop i)))):AOps E rd N ops (⟨d,.slice t x (some z) none none,T,p,af,none⟩::rest) K s:=
 qek (i:=i) (j:=l.length) hx hu ⟨_,hz⟩ rfl Om Om Om (by simpa using h)
theorem qnr{x y z:Operand}{t:TypeId}{k k':IntKind}{l:List UInt8}{i j:Nat}(hx:qg N s x=Sv l)(hy:qg N s y=.v (.int k' (i:Int)))(hz:qg N s z=.v (.int k (j:Int)))(hu:E.P.underlying t=some .string)(h1:i<=j)(h2:j<=l.length)
  (h:AOps E rd N ops rest K (s.put d (Sv ((l.take j).drop i)))):AOps E rd N ops (⟨d,.slice t x (some y) (some z) none,T,p,af,none⟩::rest) K s:=
 qek (i:=i) (j:=j) hx hu ⟨_,hy⟩ ⟨_,hz⟩ Om Om Om (by simpa using h)
end
theorem qo1{l:List UInt8}{k:Nat}(h:k<l.length):l.take (k+1)=l.take k++[l.getD k 0]:=by
 rw[List.take_add_one,Zc,Qe h];rfl
theorem qwy(x y:Value):Pure (.tu [.v x,.v y]):=qfl (by simp;exact⟨qw _,qw _⟩)
theorem qht(x y z:Value):Pure (.tu [.v x,.v y,.v z]):=qfl (by simp;exact⟨qw _,qw _,qw _⟩)
theorem zir{a a' b b':List UInt8}{c c':Bool}(h:(a,b,c)=(a',b',c')):AV.tu [Sv a,Sv b,Bv c]=.tu [Sv a',Sv b',Bv c']:=by
 simp only[Qs]at h;rw[h.1,h.2.1,h.2.2]
theorem zeb{a a':List UInt8}{c c':Bool}(h:(a,c)=(a',c')):AV.tu [Sv a,Bv c]=.tu [Sv a',Bv c']:=by
 simp only[Qs]at h;rw[h.1,h.2]
theorem zao{a a' c c':Int}{b b':List UInt8}(h:(a,b,c)=(a',b',c')):AV.tu [Iv a,Sv b,Iv c]=.tu [Iv a',Sv b',Iv c']:=by
 simp only[Qs]at h;rw[h.1,h.2.1,h.2.2]
theorem ziq{a a':Int}{b b':List UInt8}{c c':Bool}(h:(a,b,c)=(a',b',c')):AV.tu [Iv a,Sv b,Bv c]=.tu [Iv a',Sv b',Bv c']:=by
 simp only[Qs]at h;rw[h.1,h.2.1,h.2.2]
end Go.Av
namespace Go.Av
open Go Go.RowKit
structure AQ (E:Env) (N:Nat) (ops:Array Oper) (l:List Oper) (K:AS->Prop) (s:AS):Prop where
 run:∀(B0:Nat)(w0:World)(G:Gh)(a:Act)(w:World),E.L B0 w0->Inv B0 w0 N G s a w->∀Q:Act->Prop,
  (∀(s':AS)(a':Act),Inv B0 w0 N G s' a' w->s'.st=s.st->K s'->Q a')->wpQuietIn (fw none) 0 E.P ops (λw'=>Below w.heap.size w w') Q l a
section
variable {E : Env} {N : Nat} {ops : Array Oper} {K : AS → Prop} {s : AS} {rest : List Oper} {d : Option Tmp} {T : TypeId} {p : String} {af : Array Edge}
theorem q3g{l:List Oper}(h:AQ E N ops l K s):AQ E N ops l K s:=h
theorem qnv(h:K s):AQ E N ops [] K s:=⟨λ_ _ _ _ _ _ hI _ hQ=>hQ s _ hI rfl h⟩
theorem qqx{id:Nat}{l:List Oper}{Q:Exit->AS->Prop}(hm:E.P.follows .mixedOrders=true)(hB:Region.lexB .any l.toArray=true)(h:AQ E N l.toArray l (Q .normal) s):AWp E none N (.region id l.toArray true) Q s:=by
 refine⟨λB0 w0 G a w hL hI=>wpIn_region_quiet (C:=λw'=>Below w.heap.size w w') rfl hm hB ⟨rfl,rfl,rfl,Qg _,λ_ _=>rfl⟩ ?_⟩;exact h.run B0 w0 G a w hL hI _ λs' a' u6 d9 hk w' bp=>⟨G,s',.refl G,⟨u6.agree.fresh bp,u6.defers,u6.size,u6.tmps⟩,hk⟩
theorem qex{o:Oper}(hg:o.guard=none)(bv:∀c,o.op≠.defer c)
  (h:∀(B0:Nat)(w0:World)(G:Gh)(a:Act)(w:World),E.L B0 w0->Inv B0 w0 N G s a w->∃(v:Value)(r:AV),(∀w',Below w.heap.size w w'->(execOp a.eval o).run E.P w'=.ok (.value v) w')∧Rel G r v∧AQ E N ops rest K (s.put o.dst r)):AQ E N ops (o::rest) K s:=by
 refine⟨λB0 w0 G a w hL hI Q hQ=>?_⟩;obtain⟨v,r,hr,hR,hk⟩:=h B0 w0 G a w hL hI;refine⟨λ_ _ _ _=>trivial,?_⟩;simp only[Region.wanted,hg];refine⟨v,λw' bp=>?_,?_⟩
 .unfold Oper.quietAtIn
  rw[hr w' bp];exact⟨rfl,rfl⟩
 .refine hk.run B0 w0 G _ w hL (hI.put (.refl G) hI.agree o.dst hR) Q λs' a' u6 d9 hK=>hQ s' a' u6 ?_ hK
  rw[d9]
  cases o.dst<;>rfl
theorem qbd{op:Op}{g:Option (Nat×Bool)}(r:Value)(hg:g=none)(bv:∀c,op≠.defer c)(hr:∀(ρ:Operand->Value)(w:World),(∀x v,qg N s x=.v v->ρ x=v)->(execOp ρ ⟨d,op,T,p,af,g⟩).run E.P w=.ok (.value r) w)
  (h:AQ E N ops rest K (s.put d (.v r))):AQ E N ops (⟨d,op,T,p,af,g⟩::rest) K s:=
 qex hg bv λ_ _ G a w _ hI=>⟨r,.v r,λw' _=>hr a.eval w' (λ_ _ hx=>hI.evalv hx),.v r,h⟩
theorem qns{x:Operand}(h:AQ E N ops rest K (s.put d (qg N s x))):AQ E N ops (⟨d,.assign x,T,p,af,none⟩::rest) K s:=
 qex rfl nofun λ_ _ G a w _ hI=>⟨a.eval x,qg N s x,λw' _=>by simp[execOp],hI.eval x,h⟩
theorem qk8{x:Operand}(h:AQ E N ops rest K (s.put d (qg N s x))):AQ E N ops (⟨d,.move x,T,p,af,none⟩::rest) K s:=
 qex rfl nofun λ_ _ G a w _ hI=>⟨a.eval x,qg N s x,λw' _=>by simp[execOp],hI.eval x,h⟩
theorem q68{x y:Operand}{t t':TypeId}{k:IntKind}{m n r:Int}(hx:qg N s x=.v (.int k m))(hy:qg N s y=.v (.int k n))(hr:k.wrap (m+n)=r)
  (h:AQ E N ops rest K (s.put d (.v (.int k r)))):AQ E N ops (⟨d,.binOp .add t x y t',T,p,af,none⟩::rest) K s:=
 qbd _ rfl nofun (λa w he=>by rw[<-hr];simp[execOp,he _ _ hx,he _ _ hy,eqGuard_at_int,binOp,Op.intArith]) h
theorem zg3{x y:Operand}{t t':TypeId}{k:IntKind}{m n r:Int}(hx:qg N s x=.v (.int k m))(hy:qg N s y=.v (.int k n))(hr:qck .and k m n=r)
  (h:AQ E N ops rest K (s.put d (.v (.int k r)))):AQ E N ops (⟨d,.binOp .and t x y t',T,p,af,none⟩::rest) K s:=
 qbd _ rfl nofun (λa w he=>by rw[<-hr];simp[execOp,he _ _ hx,he _ _ hy,eqGuard_at_int,binOp_and,Op.intBits,qck]) h
theorem q26{x:Operand}{ts:Array TypeId}{t0:TypeId}{m:List UInt8}(hx:qg N s x=Sv m)(ht:ts[0]?=some t0)(hu:E.P.underlying t0=some .string)
  (h:AQ E N ops rest K (s.put d (Iv m.length))):AQ E N ops (⟨d,.call ⟨.builtin .len,#[x],ts⟩,T,p,af,none⟩::rest) K s:=
 qbd _ rfl nofun (λρ w he=>by simp[execOp,resolve,invoke,builtin,Builtin.len_,he _ _ hx,ht,run_underlying hu,goInt,qav]) h
theorem qqv{x:Operand}{t:TypeId}{lo hi:Option Operand}{l:List UInt8}{i j:Int}(hx:qg N s x=Sv l)(hu:E.P.underlying t=some .string)
  (cz:match lo with|none=>i=0|some y=>∃k,qg N s y=.v (.int k i)) (cg:match hi with|none=>j=l.length|some y=>∃k,qg N s y=.v (.int k j)) (h0:0<=i) (h1:i<=j) (h2:j<=l.length)
  (h:AQ E N ops rest K (s.put d (Sv ((l.take j.toNat).drop i.toNat)))):AQ E N ops (⟨d,.slice t x lo hi none,T,p,af,none⟩::rest) K s:=
 qbd _ rfl nofun (λρ w he=>by
  have e0:0<=j:=Zx h0 h1
  cases lo with
  |none=>
   simp only at cz;subst cz
   cases hi with
   |none=>
    simp only at cg;subst cg
    simp[execOp,he _ _ hx,Instr.sliceAt,Instr.slice,run_underlying hu,Instr.sliceBounds]
   |some y=>
    obtain⟨k,hy⟩:=cg
    simp[execOp,he _ _ hx,he _ _ hy,Instr.sliceAt,Instr.slice,run_underlying hu,Instr.sliceBounds,Instr.sliceBound,asIntOf,qav,e0,h2,qbh]
  |some z=>
   obtain⟨k',hz⟩:=cz
   cases hi with
   |none=>
    simp only at cg;subst cg
    simp[execOp,he _ _ hx,he _ _ hz,Instr.sliceAt,Instr.slice,run_underlying hu,Instr.sliceBounds,Instr.sliceBound,asIntOf,qav,h0,h1,qbh]
   |some y=>
    obtain⟨k,hy⟩:=cg;simp[execOp,he _ _ hx,he _ _ hy,he _ _ hz,Instr.sliceAt,Instr.slice,run_underlying hu,Instr.sliceBounds,Instr.sliceBound,asIntOf,qav,h0,e0,h2,qbh];intro hh
    omega) h
theorem qur{x z:Operand}{t:TypeId}{k:IntKind}{l:List UInt8}{j:Nat}(hx:qg N s x=Sv l)(hz:qg N s z=.v (.int k (j:Int)))(hu:E.P.underlying t=some .string)(h2:j<=l.length)
  (h:AQ E N ops rest K (s.put d (Sv (l.take j)))):AQ E N ops (⟨d,.slice t x none (some z) none,T,p,af,none⟩::rest) K s:=
 qqv (i:=0) (j:=j) hx hu rfl ⟨_,hz⟩ Om Om Om (by simpa using h)
theorem qup{x z:Operand}{t:TypeId}{k:IntKind}{l:List UInt8}{i:Nat}(hx:qg N s x=Sv l)(hz:qg N s z=.v (.int k (i:Int)))(hu:E.P.underlying t=some .string)(h2:i<=l.length)
  (h:AQ E N ops rest K (s.put d (Sv (l.drop i)))):AQ E N ops (⟨d,.slice t x (some z) none none,T,p,af,none⟩::rest) K s:=
 qqv (i:=i) (j:=l.length) hx hu ⟨_,hz⟩ rfl Om Om Om (by simpa using h)
theorem qlz{x:Operand}{i:Nat}{xs:List AV}{r:AV}(hx:qg N s x=.tu xs)(hr:xs[i]?=some r)
  (h:AQ E N ops rest K (s.put d r)):AQ E N ops (⟨d,.extract x i,T,p,af,none⟩::rest) K s:=by
 refine qex rfl nofun λB0 w0 G a w _ hI=>?_;have he:=hI.eval_of hx;generalize hv:a.eval x=v at he
 cases he with
 |tu _ vs hl h'=>
  have hi:i<vs.size:=by rw[<-hl];exact lt_of_getElem? hr
  refine⟨vs[i],r,λw' _=>?_,h' i r vs[i] hr (by simp[hi]),h⟩;generalize a.eval=ρ at hv;simp[execOp,hv,Instr.extract,hi]
def Sure(r:AV)(v:Value):Prop:=∀(G:Gh)(u:Value),Rel G r u->u=v
theorem que(x:Value):Sure (.v x) x:=λ_ _ h=>by cases h;rfl
theorem zgq{cs:List AV}{vs:List Value}(hl:cs.length=vs.length)(h:∀(i:Nat)(x:AV)(y:Value),cs[i]?=some x->vs[i]?=some y->Sure x y):Sure (.tu cs) (.tuple vs.toArray):=λG u hu=>by
 cases hu with
 |tu _ us bq h'=>
  congr 1;apply Zv
  .simp;omega
  .intro i h1 h2
   have hi:i<cs.length:=Om
   have h3:i<vs.length:=Om
   have:=h i cs[i] vs[i] Sx Sx G us[i] (h' i cs[i] us[i] Sx (by simp[h1]))
   simpa using this
theorem zdm{x y z:Value}:Sure (.tu [.v x,.v y,.v z]) (.tuple #[x,y,z]):=
 zgq (vs:=[x,y,z]) rfl λi a b ha hb=>by
  match i with
  |0=>simp at ha hb;subst ha;subst hb;exact que _
  |1=>simp at ha hb;subst ha;subst hb;exact que _
  |2=>simp at ha hb;subst ha;subst hb;exact que _
  |i+3=>simp at ha
def zdx(E:Env):Prop:=∀(B0:Nat)(w0 w:World),E.L B0 w0->Below B0 w0 w->B0<=w.heap.size->E.L w.heap.size w
theorem q24{f:FuncId}{xs:Array Operand}{ts:Array TypeId}{vals:List Value}{r:AV}{v:Value}(hok:zdx E)(a8:∀vs w,(callFunc f vs).run E.P w=.ok (.enter f vs) w)
  (rf:xs.toList.map (qg N s)=vals.map .v) (hs:Sure r v) (hpr:∀G,Rel G r v) (hc:qm E f (vals.map .v) [] λa st1=>a=r∧st1=[])
  (h:AQ E N ops rest K (s.put d r)):AQ E N ops (⟨d,.call ⟨.value (.func f),xs,ts⟩,T,p,af,none⟩::rest) K s:=by
 refine⟨λB0 w0 G a w hL hI Q hQ=>?_⟩;refine⟨λ_ _ _ _=>trivial,?_⟩;simp only[Region.wanted]
 have fx:xs.map a.eval=vals.toArray:=by
  apply Xa;simp only[Array.toList_map];have hl:xs.toList.length=vals.length:=by have:=congrArg List.length rf;simpa using this
  apply List.ext_getElem (by simpa using hl);intro i h1 h2;have h3:i<xs.toList.length:=by simpa using h1
  have h4:(xs.toList.map (qg N s))[i]?=(vals.map AV.v)[i]?:=by rw[rf]
  simp only[Qn,Qe h3,Qe h2,Za,Qb]at h4
  simpa using hI.evalv h4
 refine⟨v,λw' bp=>?_,?_⟩
 .have hr:(execOp a.eval ⟨d,.call ⟨.value (.func f),xs,ts⟩,T,p,af,none⟩).run E.P w'=.ok (.enter f vals.toArray) w':=by
   have he:a.eval (.func f)=.func (.func f) #[] #[]:=rfl;rw[<-fx];generalize a.eval=ρ at he;simp[execOp,resolve,Deferred.ofValue,he,invoke,a8]
  unfold Oper.quietAtIn;rw[hr];refine⟨rfl,λh=>by simp[fw,Fence.wide]at h,qih ?_⟩;have hb:Below B0 w0 w':=hI.agree.below.trans (bp.mono hI.agree.hB);have hB:B0<=w'.heap.size:=Zg hI.agree.hB bp.size;refine(hc.run w'.heap.size w' ⟨λ_=>none,G.ob,0⟩ vals.toArray w' (hok B0 w0 w' hL hb hB) ⟨Below.refl _ _,Qg _,rfl,nofun,nofun,nofun⟩ ⟨Sx,λi x y hx hy=>?_⟩).mono ?_
  .simp only[Qn]at hx
   simp only[Qx]at hy;rw[hy]at hx;simp at hx;subst hx;exact .v _
  .rintro e w'' ⟨u,G',r',st',rfl,hG,hA,hR,rfl,rfl⟩
   rw[hs G' u hR];exact⟨rfl,bp.trans (hA.below.mono bp.size)⟩
 .refine h.run B0 w0 G _ w hL (hI.put (.refl G) hI.agree d (hpr G)) Q λs' a' u6 d9 hK=>hQ s' a' u6 ?_ hK
  rw[d9]
  cases d<;>rfl
end
end Go.Av
namespace Go.Av
open Go Go.RowKit
def qi3(du:TypeDesc):Prop:=du=.string∨∃e,du=.slice e
structure Src (P:Program) (w:World) (x:Value) (m size:Nat) (news:List Value):Prop where
 len:∀w',(Builtin.lenOf x).run P w'=.ok m w'
 cells:∀w',Below w.heap.size w w'->(Builtin.firstCells size m x).run P w'=.ok news.toArray w'
 count:news.length=m*size
 one:∀u∈news,u.oneCell'=true
section
variable {P : Program} {w : World} {x : Value} {m : Nat} {news : List Value} {t u ty e : TypeId} {i : TypeInfo} {z : Value} {du : TypeDesc}
theorem qca(ht:P.underlying t=some (.slice e))(hu:P.underlying u=some du)(hd:qi3 du)(hi:P.info? e=some i)(hx:Src P w x 0 i.size [])(base:Option Addr)(n c:Nat)(hn:n<=c):
  (Builtin.append_ #[t,u] ty #[.slice base n c,x]).run P w=.ok (.slice base n c) w:=by
 have h1:=hx.len;have h2:=hx.cells w (Below.refl _ _);rcases hd with rfl |⟨e',rfl⟩<;>cases base<;>simp[Builtin.append_,run_underlying ht,run_underlying hu,sizeOf,typeInfo,hi,h1 w,h2,hn,storeCells]
theorem qjt(ht:P.underlying t=some (.slice e))(hu:P.underlying u=some du)(hd:qi3 du)(hi:P.info? e=some i)(hx:Src P w x m i.size news)
  (g n c:Nat) (cur:Array Value) (hg:w.heap[g]?=some (.cells cur e (0,0))) (i9:n+m<=c) (o7:n*i.size+news.length<=cur.size):
  (Builtin.append_ #[t,u] ty #[.slice (some ⟨g,0,none⟩) n c,x]).run P w=.ok (.slice (some ⟨g,0,none⟩) (n+m) c) (w.setRow g (cur.toList.take (n*i.size)++news++cur.toList.drop (n*i.size+news.length)).toArray):=by
 have h1:=hx.len;have h2:=hx.cells w (Below.refl _ _);have d9:=run_storeCells_at P g (n*i.size) e news 0 cur w hg (by simpa using o7) hx.one;simp only[Zq]at d9;rcases hd with rfl |⟨e',rfl⟩<;>simp[Builtin.append_,run_underlying ht,run_underlying hu,sizeOf,typeInfo,hi,h1 w,h2,i9,Addr.add_lit,d9]
theorem qf8(ht:P.underlying t=some (.slice e))(hu:P.underlying u=some du)(hd:qi3 du)(hi:P.info? e=some i)(hz:i.zero=some z)(hx:Src P w x m i.size news)
  (base:Option Addr) (n c:Nat) (olds:List Value) (ho:(Builtin.firstCells i.size n (.slice base n c)).run P w.drew=.ok olds.toArray w.drew)
  (hg:c<n+m) (cj:((n+m:Nat):Int)<=9223372036854775807) (o7:Builtin.nextslicecap (n+m) c*i.bytes<=281474976710656):
  (Builtin.append_ #[t,u] ty #[.slice base n c,x]).run P w=
   .ok (.slice (some ⟨w.heap.size,0,none⟩) (n+m) (grownCap w (n+m) c e))
    (w.drew.alloc (.cells (olds.toArray++news.toArray++Builtin.zeroCells z.cells (grownCap w (n+m) c e-(n+m))) e)):=by
 have h1:=hx.len;have hn:¬(n+m<=c):=Om
 have h63':¬(9223372036854775807<((n:Int)+(m:Int))):=Om
 have h48':¬(281474976710656<Builtin.nextslicecap (n+m) c*i.bytes):=Om
 have h2:=hx.cells w.drew ⟨rfl,rfl,rfl,Qg _,λ_ _=>rfl⟩
 rcases hd with rfl |⟨e',rfl⟩<;>
  (simp[Builtin.append_,run_underlying ht,run_underlying hu,sizeOf,typeInfo,zeroValue,hi,hz,h1 w,hn,h63',h48',Question.forced,ho,h2,newRow,grownCap];congr 2;apply Xa;simp[Qu])
end
section
variable {B0 : Nat} {w0 : World} {G : Gh} {st : List AObj} {w : World}
theorem zb.kill(h:zb B0 w0 G st w)(o:Nat):zb B0 w0 G (st.set o .dead) w:=by
 have key:∀(k:Nat)(x:AObj),(st.set o .dead)[k]?=some x->x=.dead∨st[k]?=some x:=λk x hx=>by
  rcases getElem?_set' _ _ _ _ _ hx with⟨_,e⟩|⟨_,e⟩
  .exact .inl e
  .exact .inr e
 refine⟨h.below,h.hB,by simp[h.n],h.pub,λk x hx=>?_,λk k' x x' d7 hx g9 hl bq=>?_⟩
 .rcases key k x hx with rfl|hx
  .trivial
  .exact h.ob k x hx
 .rcases key k x hx with rfl|hx
  .exact hl.elim
  .rcases key k' x' g9 with rfl|g9
   .exact bq.elim
   .exact h.sep k k' x x' d7 hx g9 hl bq
theorem zb.growPub(h:zb B0 w0 G st w){b:Nat}{c c':Array Value}{T:TypeId}{fz:Nat×Nat}{vs news:List Value}(hB:B0<=b)(hc:w.heap[b]?=some (.cells c T fz))(hp:G.pub b=some vs)
  (hv:∀(i:Nat)(y:Value),(vs++news)[i]?=some y->c'[i]?=some y) (hs:∀o x,st[o]?=some x->x.live->(G.ob o).blk≠b):
  G.le (G.publish b (vs++news))∧zb B0 w0 (G.publish b (vs++news)) st (w.setRow b c'):=by
 have d8:=G.le_publish b (vs++news) vs news (.inr ⟨hp,rfl⟩);refine⟨d8,h.below.trans ⟨rfl,rfl,rfl,by rw[qhb];exact Qg _,λk hk=>qef _ _ _ _ Om⟩,by rw[qhb];exact h.hB,h.n,λk ws hk=>?_,λo x hx=>?_,h.sep⟩
 .by_cases e:k=b
  .subst e
   simp[Gh.publish]at hk;subst hk;exact⟨c',T,fz,setRow_heap w k c c' T fz hc,hv⟩
  .have bn:G.pub k=some ws:=by simpa[Gh.publish,e]using hk
   rw[qef _ _ _ _ e];exact h.pub k ws bn
 .refine(h.ob o x hx).mono d8 rfl (λhl=>?_) (λhl=>qef _ _ _ _ (hs o x hx hl))
  simp[Gh.publish,hs o x hx hl]
theorem zb.setTip(h:zb B0 w0 G st w){t n n' k cap sz:Nat}{T:TypeId}(ht:st[t]?=some .dead)(hraw:(G.ob t).raw=false)(dk:(G.ob t).ver=n)(hn:n<n')
  {c:Array Value} {vs:List Value} (hc:w.heap[k]?=some (.cells c T (0,0))) (hp:G.pub k=some vs) (hl:vs.length=n'*sz) (s4:c.size=cap) (hk:B0<=k) (hs:∀o x,st[o]?=some x->x.live->(G.ob o).blk≠k):
  G.le (G.setOb t ⟨n',k,cap,false⟩)∧zb B0 w0 (G.setOb t ⟨n',k,cap,false⟩) (st.set t (.tip n' sz T)) w:=by
 have d8:=G.le_setOb t ⟨n',k,cap,false⟩ (by rw[dk];exact hn) hraw;have fj:∀o,o≠t->(G.setOb t ⟨n',k,cap,false⟩).ob o=G.ob o:=λo ho=>by simp[Gh.setOb,ho]
 have dj:(G.setOb t ⟨n',k,cap,false⟩).ob t=⟨n',k,cap,false⟩:=by simp[Gh.setOb]
 refine⟨d8,h.below,h.hB,by simp[h.n,Gh.setOb],h.pub,λo x hx=>?_,λo o' x x' d7 hx g9 dp lk=>?_⟩
 .rcases getElem?_set' _ _ _ _ _ hx with⟨rfl,rfl⟩|⟨ho,hx⟩
  .exact⟨by rw[dj],by rw[dj],λ_=>⟨by rw[dj];exact hk,c,vs,by rw[dj];exact hc,by rw[dj];exact hp,hl,by rw[dj];exact s4⟩⟩
  .exact(h.ob o x hx).mono d8 (fj o ho) (λ_=>rfl) (λ_=>rfl)
 .rcases getElem?_set' _ _ _ _ _ hx with⟨e1,e2⟩|⟨ho,hx⟩
  .rcases getElem?_set' _ _ _ _ _ g9 with⟨e3,_⟩|⟨e7,g9⟩
   .exact absurd (e1.trans e3.symm) d7
   .rw[e1,dj,fj o' e7]
    exact(hs o' x' g9 lk).symm
  .rcases getElem?_set' _ _ _ _ _ g9 with⟨e3,_⟩|⟨e7,g9⟩
   .rw[e3,dj,fj o ho]
    exact hs o x hx dp
   .rw[fj o ho,fj o' e7]
    exact h.sep o o' x x' d7 hx g9 dp lk
theorem yz{st:List AObj}{t:Nat}{x y:AObj}(h:st[t]?=some x):(st.set t y)[t]?=some y:=by
 have:=lt_of_getElem? h;simp[this]
theorem qvo{t n m sz k cap:Nat}{xs ys:List AV}{vs news:List Value}(ho:(G.ob t).ver=n+m)(hb:(G.ob t).blk=k)(hcp:(G.ob t).cap=cap*sz)(s4:cap<=maxLen)(o7:n+m<=cap)(hG:t<G.n)(h0:n+m≠0)(hx:xs.length=n)(hy:ys.length=m)
  (hp:G.pub k=some (vs++news)) (hw:∀x∈xs++ys,x.cells.length=sz) (hvl:vs.length=n*sz) (hnl:news.length=m*sz) (nz:(flat xs).length=n*sz)
  (h1:∀(i:Nat)(x:AV)(y:Value),(flat xs)[i]?=some x->vs[i]?=some y->Rel G x y) (h2:∀(i:Nat)(x:AV)(y:Value),(flat ys)[i]?=some x->news[i]?=some y->Rel G x y):Rel G (.sl sz (xs++ys) (some t)) (.slice (some ⟨k,0,none⟩) (n+m) cap):=by
 have b9:(xs++ys).length=n+m:=by simp[hx,hy]
 rw[<-b9];have hfy:(flat ys).length=m*sz:=by rw[jh (λy hy=>hw y (List.mem_append_right _ hy)),hy]
 refine .sl sz (xs++ys) (some t) k 0 cap (vs++news) hp hw (by rw[xn];simp;omega) (λi x y g1 g2=>?_) (λt' ht'=>?_) Om
 .rw[xn]at g1
  rw[Zb]at g2;by_cases hi:i<n*sz
  .rw[Qa Om]at g1 g2
   exact h1 i x y g1 g2
  .rw[Qc Om]at g1 g2
   rw[nz]at g1;rw[hvl]at g2;exact h2 _ x y g1 g2
 .simp only[Qb]at ht'
  subst ht';refine⟨hG,Om,Om,λ_=>⟨hb,rfl,hcp.symm,s4,Om⟩⟩
end
end Go.Av
namespace Go.Av
open Go Go.RowKit
structure yr (P:Program) (T:TypeId) (sz bytes:Nat):Prop where
 ex:∃i z,P.info? T=some i∧i.zero=some z∧i.size=sz∧i.bytes=bytes∧z.cells.size=sz
theorem qb5{P:Program}{B0:Nat}{w0:World}{G:Gh}{st:List AObj}{w:World}(hA:zb B0 w0 G st w){tt u ty T:TypeId}{du:TypeDesc}(htt:P.underlying tt=some (.slice T))(hu:P.underlying u=some du)(hd:qi3 du)
  {sz bytes:Nat} (hT:yr P T sz bytes) {t n m:Nat} (ht:st[t]?=some (.tip n sz T)) {xs ys:List AV} {v x:Value} (hv:Rel G (.sl sz xs (some t)) v) (hn:xs.length=n) (hm:ys.length=m)
  {news:List Value} (hx:Src P w x m sz news) (hys:∀y∈ys,y.cells.length=sz) (m8:∀(i:Nat)(a:AV)(b:Value),(flat ys)[i]?=some a->news[i]?=some b->Rel G a b)
  (cj:n+m<=maxLen) (lz:(n+m)*bytes<=140737488355328):
  ∃v' w' G',(Builtin.append_ #[tt,u] ty #[v,x]).run P w=.ok v' w'∧G.le G'∧zb B0 w0 G' (st.set t (.tip (n+m) sz T)) w'∧Rel G' (.sl sz (xs++ys) (some t)) v':=by
 obtain⟨i,z,hi,hz,rfl,rfl,pf⟩:=hT.ex;obtain⟨hraw,dk,htip⟩:=hA.ob t _ ht;have htn:t<G.n:=by rw[hA.n];exact lt_of_getElem? ht
 have e8:G.n=st.length:=hA.n;have hk:=hA.kill t;have rm:(st.set t .dead)[t]?=some .dead:=yz ht
 have p9:∀o x,(st.set t .dead)[o]?=some x->x.live->o≠t∧st[o]?=some x:=λo x hx hl=>by
  rcases getElem?_set' _ _ _ _ _ hx with⟨_,e⟩|⟨h1,h2⟩
  .subst e;exact hl.elim
  .exact⟨h1,h2⟩
 have mj:(st.set t AObj.dead).set t (.tip (n+m) i.size T)=st.set t (.tip (n+m) i.size T):=by rw[List.set_set]
 have t7:st.set t (.tip n i.size T)=st:=by
  apply Zd;intro k;by_cases e:t=k
  .subst e;rw[Zl (lt_of_getElem? ht)];exact ht.symm
  .rw[Qo e]
 -- a new block
 have grow:∀(base:Option Addr)(c:Nat)(olds:List Value),(Builtin.firstCells i.size n (.slice base n c)).run P w.drew=.ok olds.toArray w.drew->c<n+m->olds.length=n*i.size->(flat xs).length=n*i.size->(∀x∈xs,x.cells.length=i.size)->
   (∀(j:Nat)(a:AV)(b:Value),(flat xs)[j]?=some a->olds[j]?=some b->Rel G a b)->Builtin.nextslicecap (n+m) c*i.bytes<=281474976710656->m≠0->
   ∃v' w' G',(Builtin.append_ #[tt,u] ty #[.slice base n c,x]).run P w=.ok v' w'∧G.le G'∧zb B0 w0 G' (st.set t (.tip (n+m) i.size T)) w'∧Rel G' (.sl i.size (xs++ys) (some t)) v':=by
  intro base c olds ho hc sj nz hwx hrx o7 dv;have a8:=qf8 (ty:=ty) htt hu hd hi hz hx base n c olds ho hc (by simp only[maxLen]at cj;omega) o7;have mz:=grownCap_ge w (n+m) c T;have d8:=grownCap_le_maxLen w (n+m) c T cj;generalize grownCap w (n+m) c T=cap at a8 mz d8
  have o9:(olds.toArray++news.toArray++Builtin.zeroCells z.cells (cap-(n+m))).size=cap*i.size:=by
   simp only[Array.size_append,List.size_toArray,size_zeroCells,pf,sj,hx.count,<-Zm];congr 1;omega
  generalize hcv:olds.toArray++news.toArray++Builtin.zeroCells z.cells (cap-(n+m))=c' at a8 o9;have cq:Below w.heap.size w w.drew:=⟨rfl,rfl,rfl,Qg _,λ_ _=>rfl⟩;have gq:=hk.fresh cq
  have pw:∀(j:Nat)(y:Value),(olds++news)[j]?=some y->c'[j]?=some y:=λj y hy=>by
   have hj:=lt_of_getElem? hy;rw[<-hcv,Array.getElem?_append_left (by simp at hj⊢;omega),List.append_toArray]
   simpa using hy
  obtain⟨bc,mq⟩:=gq.newPub T c' (0,0) (olds++news) pw
  have hnp:G.pub w.heap.size=none:=by
   cases hp:G.pub w.heap.size with
   |none=>rfl
   |some vs=>exact absurd (hA.pub_lt hp) (Zo _)
  obtain⟨br,hA3⟩:=mq.setTip (n':=n+m) (vs:=olds++news) (k:=w.heap.size) (cap:=cap*i.size) (sz:=i.size) (T:=T) rm (by simpa[Gh.publish]using hraw) (by simpa[Gh.publish]using dk) Om (ww w.drew _) (by simp[Gh.publish]) (by simp[sj,hx.count,Zm]) o9 hA.hB (λo x hx hl=>by
   obtain⟨_,g9⟩:=p9 o x hx hl
   exact Qz ((hA.ob o x g9).lt hl))
  rw[mj]at hA3;refine⟨_,_,_,a8,bc.trans br,hA3,?_⟩;have cr:∀{a b},Rel G a b->Rel ((G.publish w.drew.heap.size (olds++news)).setOb t ⟨n+m,w.heap.size,cap*i.size,false⟩) a b:=λh=>(h.mono bc).mono br;refine qvo (n:=n) (m:=m) (cap:=cap) (k:=w.heap.size) (vs:=olds) (news:=news) (by simp[Gh.setOb]) (by simp[Gh.setOb]) (by simp[Gh.setOb]) d8 mz (by simpa[Gh.setOb,Gh.publish]using htn) Om hn hm (by simp[Gh.setOb,Gh.publish]) (λy hy=>?_) sj hx.count nz (λj a b h1 h2=>cr (hrx j a b h1 h2)) (λj a b h1 h2=>cr (m8 j a b h1 h2));rcases Zu.1 hy with h|h
  .exact hwx y h
  .exact hys y h
 by_cases dv:m=0
 .subst dv
  have hy0:ys=[]:=Qp hm;have sg:news=[]:=Qp (by simpa using hx.count);subst hy0;subst sg
  have d8:∃base c,v=.slice base n c∧n<=c:=by
   cases hv with
   |sl0 _ _ base cap h=>exact⟨base,cap,by rw[<-hn];rfl,by rw[<-hn];exact Zy _⟩
   |sl _ _ _ b off cap pub hp hw b9 hr hto hcap0=>
    obtain⟨_,_,_,h4⟩:=hto t rfl;exact⟨_,cap,by rw[hn],by rw[<-hn];exact(h4 (by rw[dk,hn])).2.2.2.2⟩
  obtain⟨base,c,rfl,hnc⟩:=d8;refine⟨_,_,G,qca htt hu hd hi hx base n c hnc,.refl G,by rw[Zq,t7];exact hA,by rw[List.append_nil];exact hv⟩
 .cases hv with
  |sl0 _ _ base cap h=>
   obtain⟨_,rfl,rfl⟩:=h t rfl;simp only[List.length_nil]at hn;subst hn
   exact grow none 0 [] (by simp[run_firstCells_none]) Om Sx (by simp[flat]) Sx (by simp[flat]) (by rw[Zb,nextslicecap_zero Om];have:=lz;rw[Zb]at this;omega) dv
  |sl _ _ _ b off cap pub hp hw b9 hr hto hcap0=>
   obtain⟨_,d7,_,h4⟩:=hto t rfl;obtain⟨hb,rfl,hcp,tn,hnc⟩:=h4 (by rw[dk,hn]);rw[hn]at d7 hnc;obtain⟨hB,c,vs,hc,hp',hvl,hcs⟩:=htip d7;rw[hb]at hc hp' hB;rw[hp']at hp;simp only[Qb]at hp;subst hp;have nz:(flat xs).length=n*i.size:=by rw[jh hw,hn]
   have hrx:∀(j:Nat)(a:AV)(y:Value),(flat xs)[j]?=some a->vs[j]?=some y->Rel G a y:=λj a y h1 h2=>hr j a y h1 (by rw[Zb];exact h2);rw[hn];by_cases i9:n+m<=cap
   .have hcur:∀(j:Nat)(y:Value),vs[j]?=some y->c[j]?=some y:=λj y hy=>by
     obtain⟨c2,T2,fz2,e1,e2⟩:=hA.pub b vs hp';rw[hc]at e1;simp only[Qb,Obj.cells.injEq]at e1;rw[e1.1];exact e2 j y hy
    have o7:n*i.size+news.length<=c.size:=by rw[hx.count,hcs,<-hcp,<-Zm];exact Zn _ i9
    have a8:=qjt (ty:=ty) htt hu hd hi hx b n cap c hc i9 o7
    have htake:c.toList.take (n*i.size)=vs:=by
     apply Zd;intro j;by_cases hj:j<n*i.size
     .rw[Zi hj]
      have:vs[j]?=some (vs[j]'(by omega)):=Qe Om;rw[this];have:=hcur j _ this
      simpa using this
     .rw[Ql So,Ql Om]
    have pw:∀(j:Nat)(y:Value),(vs++news)[j]?=some y->(c.toList.take (n*i.size)++news++c.toList.drop (n*i.size+news.length)).toArray[j]?=some y:=λj y hy=>by
     rw[htake];have:=lt_of_getElem? hy;simp only[Qx];rw[Qa this];exact hy
    have hs:∀o x,(st.set t .dead)[o]?=some x->x.live->(G.ob o).blk≠b:=λo x hx hl=>by
     obtain⟨h1,h2⟩:=p9 o x hx hl;have:=hA.sep o t x _ h1 h2 ht hl d7
     rwa [hb]at this
    obtain⟨bc,mq⟩:=hk.growPub hB hc hp' pw hs
    have o9:(c.toList.take (n*i.size)++news++c.toList.drop (n*i.size+news.length)).toArray.size=cap*i.size:=by
     simp;have:c.size=cap*i.size:=by rw[hcs,<-hcp]
     omega
    obtain⟨br,hA3⟩:=mq.setTip (n':=n+m) (vs:=vs++news) (k:=b) (cap:=cap*i.size) (sz:=i.size) (T:=T) rm (by simpa[Gh.publish]using hraw) (by simpa[Gh.publish]using dk) Om (setRow_heap w b c _ T (0,0) hc) (by simp[Gh.publish]) (by simp[hvl,hx.count,Zm]) o9 hB (λo x hx hl=>by simpa[Gh.publish]using hs o x hx hl);rw[mj]at hA3;refine⟨_,_,_,a8,bc.trans br,hA3,?_⟩;have cr:∀{a y},Rel G a y->Rel ((G.publish b (vs++news)).setOb t ⟨n+m,b,cap*i.size,false⟩) a y:=λh=>(h.mono bc).mono br;refine qvo (n:=n) (m:=m) (cap:=cap) (k:=b) (vs:=vs) (news:=news) (by simp[Gh.setOb]) (by simp[Gh.setOb]) (by simp[Gh.setOb]) tn i9 (by simpa[Gh.setOb,Gh.publish]using htn) Om hn hm (by simp[Gh.setOb,Gh.publish]) (λy hy=>?_) hvl hx.count nz (λj a y h1 h2=>cr (hrx j a y h1 h2)) (λj a y h1 h2=>cr (m8 j a y h1 h2));rcases Zu.1 hy with h|h
    .exact hw y h
    .exact hys y h
   .refine grow (some ⟨b,0,none⟩) cap vs ?_ Om hvl nz hw hrx (growslice_fits Om lz) dv
    refine run_firstCells_some w.drew i.size n ⟨b,0,none⟩ n cap vs hvl λj y hy=>?_;obtain⟨c2,T2,fz2,e1,e2⟩:=hA.pub b vs hp';have e1':w.drew.heap[b]?=some (.cells c2 T2 fz2):=e1;rw[Addr.add_lit];simp[World.cell?,e1',e2 j y hy]
section
variable {E : Env} {rd : Option Nat} {N : Nat} {ops : Array Oper} {K : AS → Prop} {s : AS} {rest : List Oper} {d : Option Tmp} {T : TypeId} {p : String} {af : Array Edge}
theorem y3{P:Program}{G:Gh}{B0:Nat}{w0:World}{st:List AObj}{w:World}(hA:zb B0 w0 G st w){sz:Nat}{ys:List AV}{tip:Option Nat}{x:Value}(h:Rel G (.sl sz ys tip) x)(p6:∀a∈flat ys,a.one=true):
  ∃news,Src P w x ys.length sz news∧(∀y∈ys,y.cells.length=sz)∧∀(i:Nat)(a:AV)(b:Value),(flat ys)[i]?=some a->news[i]?=some b->Rel G a b:=by
 cases h with
 |sl0 _ _ base cap ht=>
  refine⟨[],⟨λw'=>by simp[Builtin.lenOf],λw' _=>?_,Sx,Sx⟩,Sx,by simp[flat]⟩
  cases base with
  |none=>simp[run_firstCells_none]
  |some a=>exact run_firstCells_some w' sz 0 a 0 cap [] Sx Sx
 |sl _ _ _ b off cap pub hp hw b9 hr hto hcap0=>
  have r6:=jh hw;have hnl:((pub.drop off).take (flat ys).length).length=(flat ys).length:=So
  have i8:∀(j:Nat)(y:Value),((pub.drop off).take (flat ys).length)[j]?=some y->j<(flat ys).length∧pub[off+j]?=some y:=λj y hy=>by
   have hj:=lt_of_getElem? hy;rw[hnl]at hj;rw[Zi hj,Qt]at hy;exact⟨hj,hy⟩
  refine⟨(pub.drop off).take (flat ys).length,⟨λw'=>by simp[Builtin.lenOf],λw' bp=>?_,by rw[hnl,r6],λu hu=>?_⟩,hw,λi a b h1 h2=>hr i a b h1 (i8 i b h2).2⟩
  .refine run_firstCells_some w' sz ys.length ⟨b,off,none⟩ ys.length cap _ (by rw[hnl,r6]) λj y hy=>?_
   obtain⟨hj,hy⟩:=i8 j y hy;obtain⟨c2,T2,fz2,e1,e2⟩:=hA.pub b pub hp;have e1':w'.heap[b]?=some (.cells c2 T2 fz2):=by rw[bp.block b (hA.pub_lt hp)];exact e1
   rw[Addr.add_lit];simp[World.cell?,e1',e2 _ y hy]
  .obtain⟨j,hj⟩:=Qr hu
   obtain⟨h1,h2⟩:=i8 j u hj;have h3:(flat ys)[j]?=some (flat ys)[j]:=Qe h1;exact(hr j _ u h3 h2).one (p6 _ (List.getElem_mem h1))
theorem q6s{P:Program}{w:World}(l:List UInt8):Src P w (.string ⟨l.toArray⟩) l.length 1 (l.map λb=>.int .u8 (b.toNat:Nat)):=by
 refine⟨λw'=>by simp[Builtin.lenOf,qav],λw' _=>?_,Sx,λu hu=>?_⟩
 .have:(⟨l.toArray⟩:ByteArray).extract 0 l.length=⟨l.toArray⟩:=by rw[qbh];simp
  simp[Builtin.firstCells,this]
 .simp at hu
  obtain⟨b,_,rfl⟩:=hu;rfl
theorem qij(l:List UInt8):flat (l.map Uv)=l.map Uv:=by
 induction l with
 |nil=>rfl
 |cons b l ih=>rw[List.map_cons,qbj,ih];rfl
theorem qpv{x y:Operand}{t u T':TypeId}{sz bytes o n m:Nat}{xs ys:List AV}{tip:Option Nat}(hx:qg N s x=.sl sz xs (some o))(hy:qg N s y=.sl sz ys tip)(ho:s.st[o]?=some (.tip n sz T'))(hn:xs.length=n)
  (ht:E.P.underlying t=some (.slice T')) (hu:E.P.underlying u=some (.slice T')) (hT:yr E.P T' sz bytes) (p6:va (flat ys)=true) (hm:ys.length=m) (cj:n+m<=maxLen) (hb:(n+m)*bytes<=140737488355328)
  (h:AOps E rd N ops rest K (AS.put ⟨s.t,s.st.set o (.tip (n+m) sz T'),s.df⟩ d (.sl sz (xs++ys) (some o)))):AOps E rd N ops (⟨d,.call ⟨.builtin .append,#[x,y],#[t,u]⟩,T,p,af,none⟩::rest) K s:=by
 refine qv rfl (qu nofun λB0 w0 G a w _ hI=>?_);obtain⟨news,h1,h2,h3⟩:=y3 (P:=E.P) hI.agree (hI.eval_of hy) (by simpa[va]using p6);obtain⟨v',w',G',e1,e2,e3,e4⟩:=qb5 (ty:=T) hI.agree ht hu (.inr ⟨_,rfl⟩) hT ho (hI.eval_of hx) hn hm (hm▸h1) h2 h3 cj hb;refine⟨v',w',G',_,_,?_,e2,e3,e4,h⟩;generalize a.eval=ρ at e1;simp[execOp,resolve,invoke,builtin,e1]
theorem qyb{x y:Operand}{t u T':TypeId}{bytes o n:Nat}{xs:List AV}{l:List UInt8}(hx:qg N s x=.sl 1 xs (some o))(hy:qg N s y=Sv l)(ho:s.st[o]?=some (.tip n 1 T'))(hn:xs.length=n)
  (ht:E.P.underlying t=some (.slice T')) (hu:E.P.underlying u=some .string) (hT:yr E.P T' 1 bytes) (cj:n+l.length<=maxLen) (hb:(n+l.length)*bytes<=140737488355328)
  (h:AOps E rd N ops rest K (AS.put ⟨s.t,s.st.set o (.tip (n+l.length) 1 T'),s.df⟩ d (.sl 1 (xs++l.map Uv) (some o)))):AOps E rd N ops (⟨d,.call ⟨.builtin .append,#[x,y],#[t,u]⟩,T,p,af,none⟩::rest) K s:=by
 refine qv rfl (qu nofun λB0 w0 G a w _ hI=>?_);have hv:=hI.evalv hy
 obtain⟨v',w',G',e1,e2,e3,e4⟩:=qb5 (ty:=T) (m:=l.length) (ys:=l.map Uv) hI.agree ht hu (.inl rfl) hT ho (hI.eval_of hx) hn Sx (q6s (P:=E.P) (w:=w) l) (by simp[AV.cells]) (λi a b h1 h2=>by
  rw[qij]at h1;simp only[Qn]at h1 h2
  cases hq:l[i]?with
  |none=>simp[hq]at h1
  |some c=>simp[hq]at h1 h2;subst h1;subst h2;exact .v _) cj hb
 refine⟨v',w',G',_,_,?_,e2,e3,e4,h⟩;generalize a.eval=ρ at e1 hv;simp[execOp,resolve,invoke,builtin,hv,e1]
end
end Go.Av
