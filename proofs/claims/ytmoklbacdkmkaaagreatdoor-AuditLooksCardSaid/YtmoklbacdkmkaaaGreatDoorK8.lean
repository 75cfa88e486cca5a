/- Contracts and plain facts that the closing text leans on (part 8). No condition of their own beyond those that each states. -/
import Derived.Test.YtmoklbacdkmkaaaGreatDoorK7
set_option maxRecDepth 100000
set_option linter.unusedVariables false
set_option linter.unusedSimpArgs false
namespace Go.Pl
open Go Go.Proofs Go.Proofs.YtmoklbacdkmkaaaGreatDoor
def SpL (L:List Bytes):Prop:=L≠[]∧∀ s∈L,10∉s∧[32] <+: s
def encL (b:List qu):List Bytes:=b.flatMap fun x=>kf x::qbd x
theorem qwp {b:List qu} (hg:∀ x∈b,EncG x):encF b=zk (encL b):=by
 induction b with
 |nil=>rfl
 |cons x r ih=>
  have e:encL (x::r)=(kf x::qbd x)++encL r:=by simp [encL]
  have e2:encF (x::r)=ke x++encF r:=by simp [encF]
  rw [e,yi,e2,qhf (hg x (by simp)).good,ih fun y hy=>hg y (by simp [hy])]
theorem zf1 {x:qu} (hk:x.kind=1∨x.kind=2∨x.kind=3):[32] <+: kf x:=by
 unfold kf
 rw [if_pos (by omega)]
 rcases hk with h|h|h <;> rw [h] <;> exact⟨_,rfl⟩
theorem zfq {b:List qu} (hne:b≠[]) (hg:∀ x∈b,EncG x):SpL (encL b):=by
 refine⟨?_,fun s hs=>?_⟩
 ·cases b with
  |nil=>exact absurd rfl hne
  |cons x r=>simp [encL]
 ·obtain⟨x,hx,hs⟩:=List.mem_flatMap.1 hs
  have hG:=hg x hx
  rcases List.mem_cons.1 hs with rfl|hs
  ·exact⟨qcv x,zf1 hG.kind⟩
  ·obtain⟨h1,t,ht⟩:=qn3 hG.good s hs
   exact⟨h1,[32]++t,by rw [← ht];rfl⟩
theorem zgz {L:List Bytes} (h:SpL L):sp true (zk L)=true:=by
 rw [← qmu _ (zk L) (Nat.le_refl _),qcl L fun s hs=>(h.2 s hs).1]
 intro x hx
 obtain⟨s,hs,rfl⟩:=List.mem_map.1 hx
 exact (h.2 s hs).2
theorem zbl {L:List Bytes} (h:SpL L):(zk L)[0]? = some 32:=by
 obtain⟨hne,hs⟩:=h
 cases L with
 |nil=>exact absurd rfl hne
 |cons s r=>
  obtain⟨t,ht⟩:=(hs s (by simp)).2
  rw [qan,← ht]
  rfl
theorem qxo:∀ (L:List Bytes),L≠[]→(zk L).getLast? = some 10
 | [],h=>absurd rfl h
 | [s],_=>by rw [qan];simp [zk]
 |s::t::r,_=>by
  have ih:=qxo (t::r) (by simp)
  have hne:zk (t::r)≠[]:=fun e=>by rw [e] at ih;simp at ih
  rw [qan,List.getLast?_append,List.getLast?_cons,ih]
  simp
theorem q9e {b:List qu} (he:eErr b = .no) (hB:∀ x∈b,EdB x) (hl:(encF b).length≤50000):yq (encF b):=by
 obtain⟨h1,h40,hg⟩:=qck he
 have hG:∀ y∈b,EncG y:=fun y hy=>qu5 (hg y hy) (hB y hy)
 have hne:b≠[]:=fun e=>by subst e;simp at h1
 have hS:=zfq hne hG
 have ht:=qwp hG
 have hh:=zbl hS
 have hlast:=qxo _ hS.1
 rw [← ht] at hh hlast
 have hsp:=zgz hS
 rw [← ht] at hsp
 refine⟨?_,hl,hlast,by rw [qdp];exact hsp⟩
 rcases hc:encF b with _ | ⟨c,_ | ⟨d,r⟩⟩
 ·rw [hc] at hh;simp at hh
 ·rw [hc] at hh hlast
  simp at hh hlast
  rw [hh] at hlast
  simp at hlast
 ·simp
end Go.Pl
namespace Go.Proofs.YtmoklbacdkmkaaaGreatDoor
open Go Go.Av Go.RowKit Go.Proofs Go.Pl
theorem q9b {xs:List qu} {k:Nat} (hk:k<xs.length):(xs.map ji)[k]? = some (ji (xs.getD k ⟨0,0,[]⟩)):=by
 simp [List.getD,hk]
theorem zh5 {x:qu}:∀ y∈[ji x],Pure y:=by
 intro y hy
 simp only [List.mem_cons,List.not_mem_nil,or_false] at hy
 subst hy
 exact yz (qhe x)
theorem qlt {l:Bytes} {i:Nat} {c:UInt8} (h:l[i]? = some c):l.getD i 0=c:=by simp [List.getD,h]
theorem zgg {a b:Bytes}:∀ x∈[Sv a,Sv b],Pure x:=by
 intro x hx
 simp only [List.mem_cons,List.not_mem_nil,or_false] at hx
 rcases hx with rfl|rfl <;> exact qs _
theorem zgf {a:List Fld}:∀ x∈[jw a],Pure x:=by
 intro x hx
 simp only [List.mem_cons,List.not_mem_nil,or_false] at hx
 subst hx
 exact qc4 _
theorem q9d {b:List qu} {k:Nat} (hk:k<b.length):encF (b.take (k+1))=((encF (b.take k)++kf (b.getD k ⟨0,0,[]⟩))++[10])++qaf [32,32] (zq (b.getD k ⟨0,0,[]⟩).fields):=by
 rw [List.take_succ_eq_append_getElem hk,qz3,qz4]
 have e:b.getD k ⟨0,0,[]⟩=b[k]:=by simp [List.getD,hk]
 rw [e]
 unfold ke
 simp [List.append_assoc]
set_option maxHeartbeats 2000000 in
theorem qyb (b:List qu) (st:List AObj) (hB:∀ x∈b,EdB x) (he:eErr b = .no):qp E 125 [jg b] st fun r st'=>r=Sv (encF b)∧st'=st:=by
 refine qx (qs _) (qq Tryz.func125 rfl (Nat.le_of_ble_eq_true rfl) ?_)
 have hml:(b.map ji).length=b.length:=by simp
 obtain⟨hb1,hb40,hg⟩:=qck he
 repeat' (first|apply qn|apply qw|apply qf|apply qh|apply qg)
 refine ju (fun (k:Nat) s=>k≤b.length∧StE [(0,jg b),(3,Sv (encF (b.take k))),(4,Iv k)] st [] s) (fun k=>b.length - k) 0 ⟨by omega,qbj ⟨rfl,rfl,rfl,trivial⟩ rfl⟩ ?_
 rintro k _ ⟨hk,t,ext,rfl⟩
 by_cases hc:k<b.length
 ·have hm:b.getD k ⟨0,0,[]⟩∈b:=by simp [List.getD,hc]
  have hxb:=hB _ hm
  have hxg:=hg _ hm
  have hnx:=q9d hc
  have hpl:=qmi (b.take k) (fun y hy=>hB y (List.mem_of_mem_take hy)) (fun y hy=>hg y (List.mem_of_mem_take hy))
  have hget:(b.map ji)[k]? = some (ji (b.getD k ⟨0,0,[]⟩)):=q9b hc
  generalize b.getD k ⟨0,0,[]⟩=x at hm hxb hxg hnx hget
  obtain⟨hfl,hfg⟩:=qi2 hxg
  have hll:=qol x hxb.id1 hxb.id2
  have hfo:=qfr x.fields hfg
  have hin:=qk8 (zq x.fields)
  have htk:(b.take k).length≤40:=by rw [List.length_take];omega
  repeat' (first|apply qn|apply qw|apply qf|apply qh|apply qj|apply qg|(apply qr;(iterate 3 exact rfl))|(apply qd;exact rfl;apply ku;exact cAo)|(apply zw;(iterate 4 exact rfl))|(apply zi;exact rfl;exact rfl;exact q8 (by omega) (by omega))|(apply qmc;exact rfl;kernel_rfl)|apply qja|(apply qj7;exact rfl;exact rfl;exact cOs)|(apply qma;(iterate 3 exact rfl))|(apply qj8;(iterate 4 exact rfl))|apply qgw|apply qj6|apply qv|(apply qnx (n:=k);(iterate 5 exact rfl);exact hget)|(refine qqw (args:=[ji x]) qu8 Tryz.call123 rfl zh5 (qjz _) (fun _=>.v _) (qxh x _ hxb.id1 hxb.id2) ?_)|(refine qqw (args:=[jw x.fields]) qu8 Tryz.call184 rfl zgf (qjz _) (fun _=>.v _) (qxg x.fields _ (qs8 hfl hfg)) ?_)|(refine qqw (args:=[Sv (zq x.fields),Sv [32,32]]) qu8 Tryz.call183 rfl zgg (qjz _) (fun _=>.v _) (q3u (zq x.fields) [32,32] _ (by omega) (by decide)) ?_))
  exact⟨k+1,⟨by omega,xp ⟨rfl,congrArg Sv hnx.symm,rfl,trivial⟩ rfl⟩,by omega⟩
 ·have e:k=b.length:=by omega
  subst e
  rw [List.take_length]
  repeat' (first|apply qn|apply qf|apply qh|apply qj|apply qg|(apply qr;(iterate 3 exact rfl))|(apply qd;exact rfl;apply vc;exact cAo)|(apply zw;(iterate 4 exact rfl))|apply z4|apply qt)
  exact qo rfl (q5 rfl) ⟨rfl,x2 _ _ _ _⟩
theorem q85:∀ (ps:List Bytes) (acc b:List qu),(∀ x∈acc,EdB x)→decP ps acc=some b→∀ x∈b,EdB x
 | [],acc,b,h,e=>by
  rw [decP] at e
  cases e
  exact h
 |p::r,acc,b,h,e=>by
  rw [decP] at e
  split at e
  ·simp at e
  ·rename_i k n hb
   split at e
   ·refine q85 r _ b (fun x hx=>?_) e
    rcases List.mem_append.1 hx with hx|hx
    ·exact h x hx
    ·obtain rfl:=List.mem_singleton.1 hx
     exact q9a (qu0 hb).1 (qu0 hb).2 (qqb _)
   ·simp at e
theorem q84 {text:Bytes} {b:List qu} (h:decF text=some b):∀ x∈b,EdB x:=by
 unfold decF at h
 split at h
 ·simp at h
 ·split at h
  ·simp at h
  ·rename_i c hc
   split at h
   ·cases h
    exact q85 _ _ _ (by simp) hc
   ·simp at h
end Go.Proofs.YtmoklbacdkmkaaaGreatDoor
namespace Go.Pl
open Go Go.Proofs Go.Proofs.YtmoklbacdkmkaaaGreatDoor
def addF (out:List qu) (f:Fld):List qu:=match out.getLast? with
 |none=>out
 |some x=>out.dropLast++[⟨x.kind,x.id,x.fields++[f]⟩]
def y7 (out:List qu) (held:List Bytes):Option (List qu):=
 if held=[] then some out else if (zp held).2=0 then some (addF out (zp held).1) else none
def tryR (l:Bytes) (e:Option (Int×Int)) (k:Int):Option (Int×Int):=
 if yr k <+: l then match numZ (l.drop (yr k).length) with
  |some n=>some (k,n)
  |none=>e
 else e
def begR (l:Bytes):Option (Int×Int):=tryR l (tryR l (tryR l none 1) 2) 3
def kv:List Bytes→List qu→List Bytes→Option (List qu)
 | [],out,held=>y7 out held
 |l::r,out,held=>
  match (if held≠[]∧¬ [32,32,32] <+: l then (y7 out held).map fun o=>(o,([]:List Bytes)) else some (out,held)) with
  |none=>none
  |some (o,h)=>
   if [32,32] <+: l then if o=[] then none else kv r o (h++[l.drop 2])
   else match begR l with
    |none=>none
    |some (k,n)=>if 40≤o.length then none else kv r (o++[⟨k,n,[]⟩]) h
theorem q77 (b:List qu) (k n:Int) (gs:List Fld) (f:Fld):addF (b++[⟨k,n,gs⟩]) f=b++[⟨k,n,gs++[f]⟩]:=by
 unfold addF
 simp
def qr0 (held:List Bytes) (pe:List Fld):Prop:=(held=[]∧pe=[])∨∃ g,ka g∧held=zu g∧pe=[g]
theorem qmm {b:List qu} {k n:Int} {gs pe:List Fld} {held:List Bytes} (h:qr0 held pe):y7 (b++[⟨k,n,gs⟩]) held=some (b++[⟨k,n,gs++pe⟩]):=by
 unfold y7
 rcases h with⟨rfl,rfl⟩ | ⟨g,hg,rfl,rfl⟩
 ·simp
 ·have hu:=qnm hg
  rw [if_neg (by simp [zu]),hu,if_pos rfl,q77]
theorem ind3 {s:Bytes} (h:[32] <+: s):[32,32,32] <+: [32,32]++s:=by
 obtain⟨t,rfl⟩:=h
 exact⟨t,rfl⟩
theorem zc1 {s:Bytes} (h:¬ [32] <+: s):¬ [32,32,32] <+: [32,32]++s:=fun ⟨t,ht⟩=>h ⟨t,by simpa using ht⟩
theorem zbd {s:Bytes} {r:List Bytes} {out:List qu} {held:List Bytes} (hs:[32] <+: s) (hne:out≠[]):kv (([32,32]++s)::r) out held=kv r out (held++[s]):=by
 rw [kv,if_neg (fun h=>h.2 (ind3 hs))]
 simp only
 rw [if_pos (List.prefix_append _ _),if_neg hne]
 rfl
theorem qxl:∀ (m:List Bytes) {r:List Bytes} {out:List qu} {held:List Bytes},(∀ s∈m,[32] <+: s)→out≠[]→kv (m.map (fun s=>[32,32]++s)++r) out held=kv r out (held++m)
 | [],r,out,held,_,_=>by simp
 |s::m,r,out,held,h,hne=>by
  rw [List.map_cons,List.cons_append,zbd (h s (by simp)) hne,qxl m (fun x hx=>h x (by simp [hx])) hne]
  simp
theorem zbc {s:Bytes} {r:List Bytes} {b:List qu} {k n:Int} {gs pe:List Fld} {held:List Bytes} (hs:¬ [32] <+: s) (hh:qr0 held pe):kv (([32,32]++s)::r) (b++[⟨k,n,gs⟩]) held=kv r (b++[⟨k,n,gs++pe⟩]) [s]:=by
 rw [kv]
 have hi:=zc1 hs
 have e:(if held≠[]∧¬ [32,32,32] <+: [32,32]++s then (y7 (b++[⟨k,n,gs⟩]) held).map fun o=>(o,([]:List Bytes)) else some (b++[⟨k,n,gs⟩],held))=some (b++[⟨k,n,gs++pe⟩],[]):=by
  by_cases h0:held=[]
  ·rcases hh with⟨_,rfl⟩ | ⟨g,_,h1,_⟩
   ·rw [if_neg (fun h=>h.1 h0),h0];simp
   ·rw [h0] at h1;simp [zu] at h1
  ·rw [if_pos ⟨h0,hi⟩,qmm hh];rfl
 rw [e]
 simp only
 rw [if_pos (List.prefix_append _ _),if_neg (by simp)]
 rfl
theorem q0v {f:Fld} (h:ka f):∃ hd mr,zu f=hd::mr∧¬ [32] <+: hd∧∀ s∈mr,[32] <+: s:=by
 refine⟨_,_,rfl,?_,fun s hs=>?_⟩
 ·obtain⟨h1,_,h3,_⟩:=h.1
  rintro⟨t,ht⟩
  apply h3
  cases hk:f.1 with
  |nil=>exact absurd hk h1
  |cons c l=>
   unfold jp at ht
   rw [hk] at ht
   have:=(List.cons.inj ht).1
   rw [← this]
   simp [qer,wl]
 ·obtain⟨x,_,rfl⟩:=List.mem_map.1 hs
  exact List.prefix_append _ _
def qyt (R:List Bytes):Prop:=∀ l r,R=l::r→¬ [32,32] <+: l
theorem zgr {R:List Bytes} {b:List qu} {k n:Int} {gs pe:List Fld} {held:List Bytes} (hR:qyt R) (hh:qr0 held pe):kv R (b++[⟨k,n,gs⟩]) held=kv R (b++[⟨k,n,gs++pe⟩]) []:=by
 cases R with
 |nil=>
  rw [kv,kv,qmm hh]
  simp [y7]
 |cons l r=>
  have h2:=hR l r rfl
  have h3:¬ [32,32,32] <+: l:=fun ⟨t,ht⟩=>h2 ⟨[32]++t,by rw [← ht];rfl⟩
  have e:(if held≠[]∧¬ [32,32,32] <+: l then (y7 (b++[⟨k,n,gs⟩]) held).map fun o=>(o,([]:List Bytes)) else some (b++[⟨k,n,gs⟩],held))=some (b++[⟨k,n,gs++pe⟩],[]):=by
   by_cases h0:held=[]
   ·rcases hh with⟨_,rfl⟩ | ⟨g,_,h1,_⟩
    ·rw [if_neg (fun h=>h.1 h0),h0];simp
    ·rw [h0] at h1;simp [zu] at h1
   ·rw [if_pos ⟨h0,h3⟩,qmm hh];rfl
  rw [kv,e,kv,if_neg (fun h=>h.1 rfl)]
theorem qxk:∀ (fs:List Fld) {R:List Bytes} {b:List qu} {k n:Int} {gs pe:List Fld} {held:List Bytes},qyt R→(∀ f∈fs,ka f)→qr0 held pe →
  kv ((fs.flatMap zu).map (fun s=>[32,32]++s)++R) (b++[⟨k,n,gs⟩]) held=kv R (b++[⟨k,n,gs++pe++fs⟩]) []
 | [],R,b,k,n,gs,pe,held,hR,_,hh=>by
  rw [List.flatMap_nil,List.map_nil,List.nil_append,zgr hR hh,List.append_nil]
 |f::fs,R,b,k,n,gs,pe,held,hR,hf,hh=>by
  have hgf:=hf f (by simp)
  obtain⟨hd,mr,hl,h1,h2⟩:=q0v hgf
  rw [List.flatMap_cons,List.map_append,hl,List.map_cons,List.append_assoc,List.cons_append,zbc h1 hh,qxl mr h2 (by simp)]
  have e:[hd]++mr=zu f:=by rw [hl];rfl
  rw [e,qxk fs hR (fun x hx=>hf x (by simp [hx])) (.inr ⟨f,hgf,rfl,rfl⟩)]
  simp
theorem q8v {x:qu} (hx:EncG x):begR (kf x)=some (x.kind,x.id):=by
 have hl:kf x=yr x.kind++Lib.itoa x.id:=by
  unfold kf
  rw [if_pos (by have:=hx.kind;omega)]
 have hself:∀ e,tryR (kf x) e x.kind=some (x.kind,x.id):=fun e=>by
  unfold tryR
  rw [hl,if_pos (List.prefix_append _ _),List.drop_left,qfw hx.id1 hx.id2]
 have hoth:∀ (j:Int) e,(j=1∨j=2∨j=3)→j≠x.kind→tryR (kf x) e j=e:=fun j e hj hne=>by
  unfold tryR
  rw [hl,if_neg (qs9 hj hx.kind hne)]
 unfold begR
 rcases hx.kind with h|h|h
 ·rw [h] at hself hoth ⊢
  rw [hself,hoth 2 _ (by simp) (by decide),hoth 3 _ (by simp) (by decide)]
 ·rw [h] at hself hoth ⊢
  rw [hself,hoth 3 _ (by simp) (by decide)]
 ·rw [h] at hself hoth ⊢
  rw [hself]
theorem qxf:∀ (r b:List qu),(∀ x∈r,EncG x)→b.length+r.length≤40→kv (encL r) b []=some (b++r)
 | [],b,_,_=>by
  simp [encL,kv,y7]
 |x::r,b,h,hl=>by
  have hx:=h x (by simp)
  simp only [List.length_cons] at hl
  have e:encL (x::r)=kf x::(qbd x++encL r):=by simp [encL]
  have hR:qyt (encL r):=fun l t et=>by
   cases r with
   |nil=>simp [encL] at et
   |cons y r=>
    have e:encL (y::r)=kf y::(qbd y++encL r):=by simp [encL]
    rw [e] at et
    rw [← (List.cons.inj et).1]
    exact qlb (h y (by simp)).kind
  rw [e,kv,if_neg (fun h=>h.1 rfl)]
  simp only
  rw [if_neg (qlb hx.kind),q8v hx]
  simp only
  rw [if_neg (by omega)]
  unfold qbd
  rw [qxk x.fields hR hx.good (.inl ⟨rfl,rfl⟩),qxf r _ (fun y hy=>h y (by simp [hy])) (by simp;omega)]
  simp
def OutG (out:List qu) (m:Nat):Prop:=∀ x∈out,(∀ f∈x.fields,ka f)∧x.fields.length≤m∧-9223372036854775808≤x.id∧x.id≤9223372036854775807
theorem OutG.mono {out:List qu} {m m':Nat} (h:OutG out m) (hm:m≤m'):OutG out m':=fun x hx=>⟨(h x hx).1,by have:=(h x hx).2.1;omega,(h x hx).2.2⟩
theorem qyv {out:List qu} {f:Fld} {m:Nat} (h:OutG out m) (hf:ka f):OutG (addF out f) (m+1):=by
 unfold addF
 cases hl:out.getLast? with
 |none=>exact h.mono (by omega)
 |some y=>
  have hy:=h y (List.mem_of_getLast? hl)
  intro x hx
  rcases List.mem_append.1 hx with hx|hx
  ·exact h.mono (by omega) x ((List.dropLast_sublist out).subset hx)
  ·obtain rfl:=List.mem_singleton.1 hx
   refine⟨fun g hg=>?_,by simp;exact hy.2.1,hy.2.2⟩
   rcases List.mem_append.1 hg with hg|hg
   ·exact hy.1 g hg
   ·obtain rfl:=List.mem_singleton.1 hg
    exact hf
theorem q0f {out o:List qu} {held:List Bytes} {m:Nat} (h:OutG out m) (e:y7 out held=some o):OutG o (m+1):=by
 unfold y7 at e
 split at e
 ·cases e;exact h.mono (by omega)
 ·split at e
  ·rename_i hu
   cases e
   exact qyv h (qhp hu)
  ·simp at e
theorem q2l {l:Bytes} {e:Option (Int×Int)} {j k n:Int} (he:∀ k n,e=some (k,n)→-9223372036854775808≤n∧n≤9223372036854775807) (h:tryR l e j=some (k,n)) : -9223372036854775808≤n∧n≤9223372036854775807:=by
 unfold tryR at h
 split at h
 ·split at h
  ·rename_i v hv
   cases h
   exact (qkv hv).2
  ·exact he _ _ h
 ·exact he _ _ h
theorem q8u {l:Bytes} {k n:Int} (h:begR l=some (k,n)) : -9223372036854775808≤n∧n≤9223372036854775807:=
 q2l (fun _ _ h=>q2l (fun _ _ h=>q2l (fun _ _ h=>by simp at h) h) h) h
theorem qvj:∀ (L:List Bytes) {out b:List qu} {held:List Bytes} {m:Nat},OutG out m→kv L out held=some b→OutG b (m+L.length+1)
 | [],out,b,held,m,h,e=>by
  rw [kv] at e
  exact (q0f h e).mono (by simp)
 |l::r,out,b,held,m,h,e=>by
  rw [kv] at e
  split at e
  ·simp at e
  ·rename_i o hd he
   have ho:OutG o (m+1):=by
    split at he
    ·obtain⟨o',h1,h2⟩:=Option.map_eq_some_iff.1 he
     cases h2
     exact q0f h h1
    ·cases he;exact h.mono (by omega)
   split at e
   ·split at e
    ·simp at e
    ·exact (qvj r ho e).mono (by simp;omega)
   ·split at e
    ·simp at e
    ·rename_i k n hb
     split at e
     ·simp at e
     ·refine (qvj r (m:=m+1) (fun x hx=>?_) e).mono (by simp;omega)
      rcases List.mem_append.1 hx with hx|hx
      ·exact ho x hx
      ·obtain rfl:=List.mem_singleton.1 hx
       exact⟨by simp,by simp,q8u hb⟩
theorem q97 {b:List qu} {m:Nat} (h:OutG b m) (hm:m<9223372036854775808):∀ x∈b,EdB x:=fun x hx=>by
 obtain⟨h1,h2,h3,h4⟩:=h x hx
 exact⟨fun f hf=>by have:=(h1 f hf).1.2.1;omega,by omega,h3,h4⟩
def qcq (text:Bytes):Option (List qu):=if 50000<text.length then none else match kv ((lns text).map fun x=>x.text) [] [] with
 |none=>none
 |some b=>if eErr b = .no∧encF b=text then some b else none
theorem zc9 (l:Bytes):(lns l).map (fun x=>x.text)=(zr l).map Prod.fst:=by
 rw [← qoo,List.map_map]
 rfl
theorem zan (text:Bytes):qcq text=decF text:=by
 by_cases hbig:50000<text.length
 ·unfold qcq decF
  rw [if_pos hbig,if_pos hbig]
 have hn:=qcw _ text 0 0 (Nat.le_refl _)
 cases hd:decF text with
 |some b=>
  obtain⟨he,ht,_⟩:=qzy hd
  obtain⟨h1,h40,hg⟩:=qck he
  have hB:=q84 hd
  have hG:∀ y∈b,EncG y:=fun y hy=>qu5 (hg y hy) (hB y hy)
  have hl:(lns text).map (fun x=>x.text)=encL b:=by
   rw [zc9,← ht,qwp hG,qcl,List.map_map]
   ·simp [Function.comp_def]
   ·intro s hs
    obtain⟨x,hx,hs⟩:=List.mem_flatMap.1 hs
    rcases List.mem_cons.1 hs with rfl|hs
    ·exact qcv x
    ·exact qwa (hG x hx).good s hs
  unfold qcq
  rw [if_neg hbig,hl,qxf b [] hG (by simp;omega)]
  simp only [List.nil_append]
  rw [if_pos ⟨he,ht⟩]
 |none=>
  unfold qcq
  rw [if_neg hbig]
  cases hr:kv ((lns text).map fun x=>x.text) [] [] with
  |none=>rfl
  |some b=>
   simp only
   split
   ·rename_i hc
    have hB:=q97 (qvj _ (m:=0) (by intro x hx;simp at hx) hr) (by
     have:(lns text).length≤text.length:=hn
     simp
     omega)
    have:=zfi hc.1 hB (by rw [hc.2];omega)
    rw [hc.2,hd] at this
    simp at this
   ·rfl
end Go.Pl
namespace Go.Proofs.YtmoklbacdkmkaaaGreatDoor
open Go Go.Av Go.RowKit Go.Proofs Go.Pl
def qcp:Option (List qu)→AV
 |none=>.tu [jg [],Bv false]
 |some b=>.tu [jg b,Bv true]
end Go.Proofs.YtmoklbacdkmkaaaGreatDoor
namespace Go.Pl
open Go Go.Proofs
def vw:List (Bytes×Bool)→List Bytes
 | []=>[]
 |(t,_)::r=>if qz t=3 then t::vw r else []
def xk (prev:Bool) (t:Bytes) (e:Bool) (r:List (Bytes×Bool)) (fields:Nat) (records:Int):Int:=
 if qz t=5∨(qz t=3∧prev=false)∨e=false then 2
 else if qz t≠4 then 0
 else if (zp (t::vw r)).2≠0 then (zp (t::vw r)).2
 else if 40≤fields∨(fields=0∧400≤records) then 11 else 0
theorem qp9 {α : Type} {l:List α} {x : α} (h:l.getLast? = some x):l.dropLast++[x]=l:=by
 have hne:l≠[]:=fun e=>by subst e;simp at h
 rw [List.getLast?_eq_some_getLast hne] at h
 obtain rfl:=Option.some.inj h
 exact List.dropLast_concat_getLast hne
def outR (now:zv) (out:List zv):List zv:=if now.raw=[] then out else out++[now]
def refL:Nat→List (Bytes×Bool)→Bool→zv→Int→List zv→Option (Int×Int)×List zv
 | _,[],_,now,_,out=>(none,outR now out)
 |i,(t,e)::r,prev,now,rec,out=>
  if xk prev t e r now.fields.length rec≠0 then (some ((i:Int),xk prev t e r now.fields.length rec),[])
  else if qz t=1 then refL (i+1) r false ⟨2,[],[]⟩ rec (outR now out++[⟨1,t++[10],[]⟩])
  else if qz t=4 then refL (i+1) r true ⟨3,now.raw++t++[10],now.fields++[(zp (t::vw r)).1]⟩ (if now.kind=2 then rec+1 else rec) out
  else refL (i+1) r (decide (qz t=3)) ⟨now.kind,now.raw++t++[10],now.fields⟩ rec out
def qyh:List (Bytes×Bool)→Prop
 | []=>True
 |(_,e)::r=>(e=false→r=[])∧qyh r
theorem qqj:∀ (n:Nat) (l:Bytes),l.length≤n→qyh (zr l)
 | 0,l,h=>by
  have:l=[]:=List.length_eq_zero_iff.1 (by omega)
  subst this
  rw [v6]
  trivial
 |n+1,l,h=>by
  by_cases hl:l=[]
  ·subst hl
   rw [v6]
   trivial
  ·rw [wv hl]
   refine⟨fun he=>?_,qqj n _ (by have:=wy (c:=10) hl;omega)⟩
   have h10:10∉l:=by simpa using he
   have:past 10 l=[]:=by
    unfold past
    rw [w7 h10]
    exact List.drop_eq_nil_of_le (by omega)
   rw [this,v6]
def qev (ls:List Bytes) (full:Bool):Int:=if (zp ls).2≠0 then (zp ls).2 else if full=true then 11 else 0
theorem qig {p:PSt} (h:p.lines≠[]) (hc:qev p.lines p.full≠0):(jy p).1=some (p.frm,qev p.lines p.full):=by
 unfold qev at *
 unfold jy
 rw [if_neg h]
 by_cases h1:(zp p.lines).2≠0
 ·rw [if_pos h1,if_pos h1]
 ·rw [if_neg h1] at hc ⊢
  rw [if_neg h1]
  by_cases h2:p.full=true
  ·rw [if_pos h2,if_pos h2]
  ·rw [if_neg h2] at hc
   exact absurd rfl hc
theorem qws {p:PSt} (h:p.lines=[]∨qev p.lines p.full=0):jy p=(none,{ p with lines:=[],fields:=p.fields++(if p.lines=[] then [] else [(zp p.lines).1]) }):=by
 unfold jy
 by_cases h0:p.lines=[]
 ·rw [if_pos h0,if_pos h0]
  obtain⟨a,b,c,d,e,f,g⟩:=p
  simp only at h0
  subst h0
  simp
 ·rw [if_neg h0,if_neg h0]
  have h:=h.resolve_left h0
  unfold qev at h
  by_cases h1:(zp p.lines).2≠0
  ·rw [if_pos h1] at h
   exact absurd h h1
  ·rw [if_neg h1] at h ⊢
   by_cases h2:p.full=true
   ·rw [if_pos h2] at h
    simp at h
   ·rw [if_neg h2]
theorem qru {p:PSt} {no:Int} {t:Bytes} {e:Bool} {x:Int×Int} (h:(jr p no t e (qz t)).1=some x):(wr p no t e).1=some x:=by
 unfold wr
 rw [h]
theorem qrv {p q:PSt} {no:Int} {t:Bytes} {e:Bool} (h:jr p no t e (qz t)=(none,q)) (hc:qz t=5∨e=false):(wr p no t e).1=some (no,2):=by
 unfold wr
 rw [h]
 simp only
 rw [if_pos hc]
theorem ql2 {p q:PSt} {no:Int} {t:Bytes} (h:jr p no t true (qz t)=(none,q)) (hc:qz t≠5):wr p no t true =
  if qz t=1 then (none,{ q with items:=q.items++[⟨1,t++[10],[]⟩] }) else if qz t=4 then (none,{ kz q no t with block:=q.block++[t] }) else (none,{ q with block:=q.block++[t] }):=by
 unfold wr
 rw [h]
 simp only
 rw [if_neg (by simp [hc])]
theorem qf1 {k:Nat} {t:Bytes} {e:Bool} {r:List (Bytes×Bool)} {p:PSt} {x:Int×Int} (h:(wr p k t e).1=some x):(runL k ((t,e)::r) p).1=some x:=by
 rw [runL,h]
theorem qhx {k:Nat} {t:Bytes} {e:Bool} {r:List (Bytes×Bool)} {p q:PSt} (h:wr p k t e=(none,q)):runL k ((t,e)::r) p=runL (k+1) r q:=by
 rw [runL,h]
theorem qr4 {p:PSt} {no:Int} {t:Bytes} (hk:qz t=3) (hl:p.lines≠[]):jr p no t true (qz t)=(none,{ p with lines:=p.lines++[t] }):=by
 unfold jr
 rw [if_pos hk,if_neg hl,if_pos rfl]
theorem qr3 {p:PSt} {no:Int} {t:Bytes} (hk:qz t=3) (hl:p.lines≠[]):jr p no t false (qz t)=jy { p with lines:=p.lines++[t] }:=by
 unfold jr
 rw [if_pos hk,if_neg hl,if_neg (by simp)]
theorem qg9 {p:PSt} {no:Int} {t:Bytes} {e:Bool} (hk:qz t≠3) (h1:qz t≠1):jr p no t e (qz t)=jy p:=by
 unfold jr
 rw [if_neg hk,if_neg h1]
theorem qk1 {p:PSt} {no:Int} {t:Bytes} {e:Bool} (h1:qz t=1):jr p no t e (qz t)=endP p:=by
 unfold jr
 rw [if_neg (by omega),if_pos h1]
theorem qmx {t:Bytes} {e:Bool} {r:List (Bytes×Bool)} (h:qz t≠3):vw ((t,e)::r)=[]:=by
 rw [vw,if_neg h]
theorem qhj {t:Bytes} {e:Bool} {r:List (Bytes×Bool)} (h:qz t=3):vw ((t,e)::r)=t::vw r:=by
 rw [vw,if_pos h]
theorem qz5 {p:PSt} {x:Int×Int} (h:(jy p).1=some x):(endP p).1=some x:=by
 unfold endP
 rw [h]
theorem qu6 {p q:PSt} (h:jy p=(none,q)):endP p=(none,yf q):=by
 unfold endP
 rw [h]
theorem q1o:∀ (r:List (Bytes×Bool)) (p:PSt) (k:Nat) (c:Int),qyh r→p.lines≠[]→qev (p.lines++vw r) p.full=c→c≠0→(runL k r p).1=some (p.frm,c)
 | [],p,k,c,_,hl,hc,h0=>by
  rw [vw,List.append_nil] at hc
  rw [runL]
  subst hc
  exact qz5 (qig hl h0)
 |(t,e)::r,p,k,c,hE,hl,hc,h0=>by
  by_cases h3:qz t=3
  ·rw [qhj h3] at hc
   cases e with
   |true=>
    have ht:=ql2 (qr4 (no:=k) h3 hl) (by omega)
    rw [if_neg (by omega),if_neg (by omega)] at ht
    rw [qhx ht]
    exact q1o r _ (k+1) c hE.2 (by simp) (by simpa using hc) h0
   |false=>
    have hr:=hE.1 rfl
    subst hr
    refine qf1 (qru ?_)
    rw [qr3 h3 hl]
    have hc':qev (p.lines++[t]) p.full=c:=hc
    have:=qig (p:={ p with lines:=p.lines++[t] }) (by simp) (by simp only;rw [hc'];exact h0)
    simp only at this
    rw [this,hc']
  ·rw [qmx h3,List.append_nil] at hc
   subst hc
   refine qf1 (qru ?_)
   by_cases h1:qz t=1
   ·rw [qk1 h1]
    exact qz5 (qig hl h0)
   ·rw [qg9 h3 h1]
    exact qig hl h0
structure Sim (r:List (Bytes×Bool)) (p:PSt) (prev:Bool) (now:zv) (rec:Int) (out:List zv):Prop where
 hprev:prev=decide (p.lines≠[])
 hok:p.lines=[]∨qev (p.lines++vw r) p.full=0
 hraw:now.raw=zk p.block
 hfields:now.fields=p.fields++(if p.lines=[] then [] else [(zp (p.lines++vw r)).1])
 hkind:now.kind=if now.fields=[] then 2 else 3
 hrec:rec=p.records+if now.fields=[] then 0 else 1
 hout:out=p.items
 hempty:p.block=[]→p.lines=[]∧p.fields=[]
 b1:now.fields.length≤40
 b2:rec≤400
theorem zbk (b:List Bytes):zk b=[]↔b=[]:=by
 cases b with
 |nil=>simp [zk]
 |cons x r=>simp [zk]
theorem qnd (b:List Bytes) (t:Bytes):zk (b++[t])=zk b++t++[10]:=by simp [zk]
theorem Sim.flush {r:List (Bytes×Bool)} {p:PSt} {prev:Bool} {now:zv} {rec:Int} {out:List zv} (h:Sim r p prev now rec out) (hm:vw r=[]):jy p=(none,{ p with lines:=[],fields:=now.fields }):=by
 have h1:=h.hok
 have h2:=h.hfields
 rw [hm,List.append_nil] at h1 h2
 rw [qws h1,h2]
theorem Sim.close {r:List (Bytes×Bool)} {p:PSt} {prev:Bool} {now:zv} {rec:Int} {out:List zv} (h:Sim r p prev now rec out) (hm:vw r=[]):yf { p with lines:=[],fields:=now.fields }={ p with lines:=[],fields:=[],block:=[],items:=outR now out,records:=rec }:=by
 have hk:=h.hkind
 have hr:=h.hrec
 have hw:=h.hraw
 have ho:=h.hout
 unfold yf outR
 simp only
 by_cases hb:p.block=[]
 ·obtain⟨e1,e2⟩:=h.hempty hb
  have hf:now.fields=[]:=by rw [h.hfields,e1,e2];simp
  rw [if_pos hb,if_pos (by rw [hw,hb];rfl),ho,hr,hf]
  simp
 ·have hne:¬ now.raw=[]:=by rw [hw,zbk];exact hb
  rw [if_neg hb,if_neg hne,ho,hr,← hw]
  obtain⟨nk,nr,nf⟩:=now
  simp only at hk hne ⊢
  by_cases hf:nf=[]
  ·rw [if_pos hf] at hk
   simp [hf,hk,hne]
  ·rw [if_neg hf] at hk
   simp [hf,hk,hne]
theorem qlz:∀ (r:List (Bytes×Bool)) (k:Nat) (p:PSt) (prev:Bool) (now:zv) (rec:Int) (out:List zv),qyh r→Sim r p prev now rec out →
  refL k r prev now rec out=match (runL k r p).1 with
   |some e=>(some e,[])
   |none=>(none,(runL k r p).2.items)
 | [],k,p,prev,now,rec,out,_,h=>by
  rw [runL,qu6 (h.flush rfl),h.close rfl,refL]
 |(t,e)::r,k,p,prev,now,rec,out,hE,h=>by
  rw [refL]
  by_cases h3:qz t=3
  ·by_cases hl:p.lines=[]
   ·have hp:prev=false:=by rw [h.hprev];simp [hl]
    have hw:xk prev t e r now.fields.length rec=2:=by
     unfold xk
     rw [if_pos (.inr (.inl ⟨h3,hp⟩))]
    rw [hw,if_pos (by decide),qf1 (x:=((k:Int),2)) (qru (by unfold jr;rw [if_pos h3,if_pos hl]))]
   ·cases e with
    |true=>
     have hp:prev=true:=by rw [h.hprev];simp [hl]
     have hw:xk prev t true r now.fields.length rec=0:=by
      unfold xk
      rw [if_neg (by simp [hp];omega),if_pos (by omega)]
     have ht:=ql2 (qr4 (no:=k) h3 hl) (by omega)
     rw [if_neg (by omega),if_neg (by omega)] at ht
     rw [hw,if_neg (by simp),if_neg (by omega),if_neg (by omega),qhx ht]
     have hm:=qhj (e:=true) (r:=r) h3
     have hok:=h.hok.resolve_left hl
     have hfs:=h.hfields
     rw [if_neg hl,hm] at hfs
     rw [hm] at hok
     refine qlz r (k+1) _ _ _ _ _ hE.2 ⟨by simp [h3],.inr (by simpa using hok),by rw [qnd,← h.hraw],by simp [hfs],h.hkind,h.hrec,h.hout,by simp,h.b1,h.b2⟩
    |false=>
     have hr:=hE.1 rfl
     subst hr
     have hw:xk prev t false [] now.fields.length rec=2:=by
      unfold xk
      rw [if_pos (.inr (.inr rfl))]
     have hok:=h.hok.resolve_left hl
     rw [qhj h3] at hok
     have hf:=qws (p:={ p with lines:=p.lines++[t] }) (.inr hok)
     rw [hw,if_pos (by decide),qf1 (x:=((k:Int),2)) (qrv ((qr3 h3 hl).trans hf) (.inr rfl))]
  ·have hm:=qmx (e:=e) (r:=r) h3
   have hf:=h.flush hm
   have hc:=h.close hm
   by_cases hbad:qz t=5∨e=false
   ·have hw:xk prev t e r now.fields.length rec=2:=by
     unfold xk
     rw [if_pos (by rcases hbad with h|h;exact .inl h;exact .inr (.inr h))]
    rw [hw,if_pos (by decide)]
    by_cases h1:qz t=1
    ·rw [qf1 (x:=((k:Int),2)) (qrv ((qk1 h1).trans (qu6 hf)) hbad)]
    ·rw [qf1 (x:=((k:Int),2)) (qrv ((qg9 h3 h1).trans hf) hbad)]
   ·have he:e=true:=by
     cases e with
     |true=>rfl
     |false=>exact absurd (.inr rfl) hbad
    have h5:qz t≠5:=fun h=>hbad (.inl h)
    subst he
    by_cases h1:qz t=1
    ·have hw:xk prev t true r now.fields.length rec=0:=by
      unfold xk
      rw [if_neg (by simp [h3,h5]),if_pos (by omega)]
     have ht:=ql2 ((qk1 (no:=k) h1).trans (qu6 hf)) h5
     rw [if_pos h1,hc] at ht
     rw [hw,if_neg (by simp),if_pos h1,qhx ht]
     exact qlz r (k+1) _ _ _ _ _ hE.2 ⟨by simp,.inl rfl,rfl,by simp,by simp,by simp,rfl,by simp,by simp,h.b2⟩
    ·by_cases h4:qz t=4
     ·have ht:=ql2 ((qg9 (no:=k) h3 h1).trans hf) h5
      rw [if_neg h1,if_pos h4] at ht
      rw [qhx ht]
      have hb1:=h.b1
      have hb2:=h.b2
      have hrec:=h.hrec
      have hfull:(40≤now.fields.length∨(now.fields.length=0∧400≤rec))↔(now.fields.length=40∨(now.fields.length=0∧p.records=400)):=by
       by_cases hz:now.fields=[]
       ·rw [if_pos hz] at hrec
        simp only [hz,List.length_nil]
        constructor
        ·rintro (h'|h')
         ·exact absurd h' (by decide)
         ·exact .inr ⟨trivial,by omega⟩
        ·rintro (h'|h')
         ·exact absurd h' (by decide)
         ·exact .inr ⟨trivial,by omega⟩
       ·have:now.fields.length≠0:=fun h=>hz (List.length_eq_zero_iff.1 h)
        constructor
        ·rintro (h'|h')
         ·exact .inl (by omega)
         ·exact absurd h'.1 this
        ·rintro (h'|h')
         ·exact .inl (by omega)
         ·exact absurd h'.1 this
      have hw:xk prev t true r now.fields.length rec=qev (t::vw r) (decide (now.fields.length=40∨(now.fields.length=0∧p.records=400))):=by
       unfold xk qev
       rw [if_neg (by simp [h3,h5]),if_neg (by omega)]
       by_cases hu:(zp (t::vw r)).2≠0
       ·rw [if_pos hu,if_pos hu]
       ·rw [if_neg hu,if_neg hu]
        by_cases hx:40≤now.fields.length∨(now.fields.length=0∧400≤rec)
        ·rw [if_pos hx,if_pos (decide_eq_true (hfull.1 hx))]
        ·rw [if_neg hx,if_neg (by simpa using fun h=>hx (hfull.2 h))]
      by_cases hw0:xk prev t true r now.fields.length rec=0
      ·rw [if_neg (by simp [hw0]),if_neg h1,if_pos h4]
       have hx:¬ (40≤now.fields.length∨(now.fields.length=0∧400≤rec)):=fun hx=>by
        unfold xk at hw0
        rw [if_neg (by simp [h3,h5]),if_neg (by omega)] at hw0
        by_cases hu:(zp (t::vw r)).2≠0
        ·rw [if_pos hu] at hw0;exact hu hw0
        ·rw [if_neg hu,if_pos hx] at hw0;simp at hw0
       rw [hw] at hw0
       refine qlz r (k+1) _ _ _ _ _ hE.2 ⟨by simp [kz],.inr hw0,by simp only [kz];rw [qnd,← h.hraw],by simp [kz],by simp,?_,h.hout,by simp [kz],by simp;omega,?_⟩
       ·have hkd:=h.hkind
        simp only [kz]
        by_cases hz:now.fields=[]
        ·rw [if_pos hz] at hrec hkd
         rw [hkd]
         simp
         omega
        ·rw [if_neg hz] at hrec hkd
         rw [hkd]
         simp
         omega
       ·rw [h.hkind]
        by_cases hz:now.fields=[]
        ·have:now.fields.length=0:=by rw [hz];rfl
         rw [if_pos hz,if_pos rfl]
         omega
        ·rw [if_neg hz,if_neg (by decide)]
         exact hb2
      ·rw [if_pos hw0]
       have:=q1o r { kz { p with lines:=[],fields:=now.fields } k t with block:=p.block++[t] } (k+1) (xk prev t true r now.fields.length rec) hE.2 (by simp [kz]) hw.symm hw0
       simp only [kz] at this ⊢
       rw [this]
     ·have hw:xk prev t true r now.fields.length rec=0:=by
       unfold xk
       rw [if_neg (by simp [h3,h5]),if_pos h4]
      have ht:=ql2 ((qg9 (no:=k) h3 h1).trans hf) h5
      rw [if_neg h1,if_neg h4] at ht
      rw [hw,if_neg (by simp),if_neg h1,if_neg h4,qhx ht]
      exact qlz r (k+1) _ _ _ _ _ hE.2 ⟨by simp [h3],.inl rfl,by rw [qnd,← h.hraw],by simp,h.hkind,h.hrec,h.hout,by simp,h.b1,h.b2⟩
theorem qlf (text:Bytes):refL 0 (zr text) false ⟨2,[],[]⟩ 0 []=jz text:=by
 unfold jz
 exact qlz (zr text) 0 p0 false ⟨2,[],[]⟩ 0 [] (qqj _ text (Nat.le_refl _)) ⟨by simp [p0],.inl rfl,rfl,by simp [p0],by simp,by simp [p0],rfl,by simp [p0],by simp,by omega⟩
end Go.Pl
namespace Go.Pl
open Go Go.Proofs Go.Proofs.YtmoklbacdkmkaaaGreatDoor
theorem qip {l b:Bytes} {n:Int} (h:zb l=(1,b,n)):yq b∧∃ m,l=recF b++m∧n=(recF b).length:=by
 unfold zb at h
 split at h
 ·rename_i h10
  split at h
  ·rename_i ho
   generalize hr:past 10 l=r at *
   have hl:=wg h10
   rw [hr] at hl
   generalize hu:upto 10 l=u at *
   have hop:u=wh (jd u).1 (jd u).2.1∧2≤(jd u).1∧(jd u).1≤50000:=by
    simp only [jd,decide_eq_true_eq] at ho ⊢
    obtain⟨o1,o2,o3,o4,o5⟩:=ho
    refine⟨?_,o3,qam _⟩
    obtain⟨t,rfl⟩:=o1
    rw [qix] at *
    have:=qcd rfl (Nat.le_trans (by decide) o3)
    unfold wh
    rw [← this,← wg o2]
   generalize (jd u).1=n at *
   generalize (jd u).2.1=fig at *
   obtain⟨rfl,h2,hn⟩:=hop
   split at h
   ·unfold x3 at h
    split at h <;> simp at h
   ·rename_i hge
    split at h
    ·rename_i hg
     have hlen:(r.take n).length=n:=by simp;omega
     unfold xc at h
     rw [hlen] at h
     split at h
     ·simp at h
     ·split at h
      ·rename_i hc
       obtain⟨⟨m,hm⟩,hs⟩:=hc
       simp only [Prod.mk.injEq,true_and] at h
       obtain⟨rfl,rfl⟩:=h
       refine⟨hg,m,?_,?_⟩
       ·rw [qpo,hlen,← hs,hl]
        unfold recL
        conv=>lhs;rw [← List.take_append_drop n r,← hm]
        simp
       ·rw [q3o _ hg,hlen]
      ·simp at h
    ·simp at h
  ·simp at h
 ·split at h <;> simp at h
theorem qve (s sub:Bytes) (i:Nat):Lib.occAt s sub i=true↔sub <+: s.drop i:=by
 unfold Lib.occAt
 rw [List.isPrefixOf_iff_prefix]
theorem zhg {a:Bytes} (r:Bytes) (h:10∉a):Lib.cut (a++10::10::r) [10,10]=(a,r,true):=by
 have hi:Lib.index (a++10::10::r) [10,10]=(a.length:Int):=by
  refine Lib.index_first (by simp) ?_ fun j hj=>?_
  ·rw [qve,List.drop_left]
   exact⟨r,rfl⟩
  ·cases hb:Lib.occAt (a++10::10::r) [10,10] j with
   |false=>rfl
   |true=>
    obtain⟨t,ht⟩:=(qve _ _ _).1 hb
    rw [List.drop_append_of_le_length (by omega)] at ht
    have:a.drop j≠[]:=by
     intro e
     have:=congrArg List.length e
     simp at this
     omega
    obtain⟨c,q,hq⟩:=List.exists_cons_of_ne_nil this
    rw [hq] at ht
    have h10:c=10:=by simpa using (List.cons.inj ht).1.symm
    exact absurd (List.mem_of_mem_drop (by rw [hq,h10];simp:(10:UInt8)∈a.drop j)) h
 unfold Lib.cut
 rw [hi,if_pos (by omega)]
 simp only [Int.toNat_natCast,List.take_left',List.length_cons,List.length_nil]
 rw [show a.length+(0+1+1)=(a++[10,10]).length by simp,show a++10::10::r=(a++[10,10])++r by simp,List.drop_left]
theorem zcj {l m:Bytes} (h:(Lib.cut l m).2.2=true):l=(Lib.cut l m).1++m++(Lib.cut l m).2.1:=by
 rcases Lib.index_spec l m with⟨h1,_⟩ | ⟨i,h1,h2,h3,_⟩
 ·unfold Lib.cut at h
  rw [h1,if_neg (by omega)] at h
  simp at h
 ·unfold Lib.cut
  rw [h1,if_pos (by omega)]
  simp only [Int.toNat_natCast]
  obtain⟨t,ht⟩:=(qve _ _ _).1 h3
  have e:l.drop (i+m.length)=t:=by rw [← List.drop_drop,← ht,List.drop_left]
  rw [e,List.append_assoc,ht,List.take_append_drop]
def genL:Bytes:=[35,37,103,101,110,32]
def yl (n:Int):Bytes:=genL++Lib.itoa n++[10,10]
def xg (n:Int):Prop:=1≤n∧n≤2147483648
instance (n:Int):Decidable (xg n):=inferInstanceAs (Decidable (_∧_))
def vh (text:Bytes):Int×Bytes:=
 if genL <+: text then
  match numZ (upto 10 (text.drop 6)) with
  |some n=>if xg n∧[10,10] <+: text.drop (6+(upto 10 (text.drop 6)).length) then (n,text.drop (8+(upto 10 (text.drop 6)).length)) else (0,text)
  |none=>(0,text)
 else (0,text)
theorem qms (v:Int):(10:UInt8)∉Lib.itoa v:=by
 intro h
 by_cases hv:v<0
 ·rw [qfg hv] at h
  rcases List.mem_cons.1 h with h|h
  ·simp at h
  ·have:=w9 _ _ (Nat.le_refl _) _ h
   simp at this
 ·rw [qfh (by omega)] at h
  have:=w9 _ _ (Nat.le_refl _) _ h
  simp at this
theorem qmt (n:Int) (r:Bytes):yl n++r=genL++(Lib.itoa n++10::10::r):=by simp [yl]
theorem qnb {n:Int} (h:xg n) (r:Bytes):vh (yl n++r)=(n,r):=by
 unfold vh
 have hd:(genL++(Lib.itoa n++10::10::r)).drop 6=Lib.itoa n++10::10::r:=by rw [show (6:Nat)=genL.length by rfl,List.drop_left]
 rw [qmt,if_pos (List.prefix_append _ _),hd,v8 _ (qms n),qfw (by have:=h.1;omega) (by have:=h.2;omega)]
 have e1:(genL++(Lib.itoa n++10::10::r)).drop (6+(Lib.itoa n).length)=10::10::r:=by rw [← List.drop_drop,hd,List.drop_left]
 have e2:(genL++(Lib.itoa n++10::10::r)).drop (8+(Lib.itoa n).length)=r:=by
  rw [show 8+(Lib.itoa n).length=(6+(Lib.itoa n).length)+2 by omega,← List.drop_drop,e1]
  rfl
 simp only
 rw [e1,e2,if_pos ⟨h,r,rfl⟩]
theorem qo9 {text:Bytes} (h:∀ n r,xg n→text≠yl n++r):vh text=(0,text):=by
 unfold vh
 split
 ·rename_i hp
  obtain⟨t,rfl⟩:=hp
  have hd:(genL++t).drop 6=t:=by rw [show (6:Nat)=genL.length by rfl,List.drop_left]
  rw [hd]
  split
  ·rename_i n hn
   split
   ·rename_i hc
    obtain⟨hg,r,hr⟩:=hc
    rw [← List.drop_drop,hd] at hr
    obtain⟨he,_⟩:=qkv hn
    refine absurd ?_ (h n r hg)
    rw [qmt,← he]
    congr 1
    conv=>lhs;rw [← List.take_append_drop (upto 10 t).length t,qf5,← hr]
    rfl
   ·rfl
  ·rfl
 ·rfl
theorem qqt (text:Bytes):(∃ n r,xg n∧text=yl n++r∧vh text=(n,r))∨((∀ n r,xg n→text≠yl n++r)∧vh text=(0,text)):=by
 by_cases h:∃ n r,xg n∧text=yl n++r
 ·obtain⟨n,r,hg,rfl⟩:=h
  exact .inl ⟨n,r,hg,rfl,qnb hg r⟩
 ·have h':∀ n r,xg n→text≠yl n++r:=fun n r hg e=>h ⟨n,r,hg,e⟩
  exact .inr ⟨h',qo9 h'⟩
def wm (n:Int):Bytes:=if xg n then yl n else []
theorem qdj (text:Bytes):text=wm (vh text).1++(vh text).2∧((vh text).1=0∨xg (vh text).1):=by
 rcases qqt text with⟨n,r,hg,he,ht⟩ | ⟨_,ht⟩
 ·rw [ht]
  simp only
  unfold wm
  rw [if_pos hg]
  exact⟨he,.inr hg⟩
 ·rw [ht]
  exact⟨rfl,.inl rfl⟩
theorem qw0 {n:Int} (h:xg n):(yl n).length≤28:=by
 have:=qkn (v:=n) (by have:=h.1;omega) (by have:=h.2;omega)
 simp [yl,genL]
 omega
def begF (l:Bytes):Bool:=decide (l.head? = some 37∧qz l=5)
def z0 (n:Nat) (l:Bytes):Nat:=if h:l=[] then n else if begF (upto 10 l)=true then n - l.length else z0 n (past 10 l)
 termination_by l.length
 decreasing_by exact wy h
theorem qc1 (n:Nat):z0 n []=n:=by rw [z0,dif_pos rfl]
theorem qge {n:Nat} {l:Bytes} (h:l≠[]) (hb:begF (upto 10 l)=true):z0 n l=n - l.length:=by rw [z0,dif_neg h,if_pos hb]
theorem qhr {n:Nat} {l:Bytes} (h:l≠[]) (hb:¬ begF (upto 10 l)=true):z0 n l=z0 n (past 10 l):=by
 conv=>lhs;rw [z0]
 rw [dif_neg h,if_neg hb]
theorem qn2:∀ (k n:Nat) (l:Bytes),l.length≤k→l.length≤n→n - l.length≤z0 n l∧z0 n l≤n
 | 0,n,l,h,hn=>by
  have:l=[]:=List.length_eq_zero_iff.1 (by omega)
  subst this
  rw [qc1]
  simp
 |k+1,n,l,h,hn=>by
  by_cases hl:l=[]
  ·subst hl;rw [qc1];simp
  ·by_cases hb:begF (upto 10 l)=true
   ·rw [qge hl hb]
    omega
   ·have:=wy (c:=10) hl
    rw [qhr hl hb]
    have:=qn2 k n (past 10 l) (by omega) (by omega)
    omega
theorem qiq:∀ (r:List (Bytes×Bool)) (k:Nat) (prev:Bool) (now:zv) (rec:Int) (out:List zv),(refL k r prev now rec out).1=none→∀ x∈r,qz x.1≠5∧x.2=true
 | [],_,_,_,_,_,_=>by simp
 |(t,e)::r,k,prev,now,rec,out,h=>by
  rw [refL] at h
  split at h
  ·simp at h
  ·rename_i hw
   have hx:qz t≠5∧e=true:=by
    unfold xk at hw
    split at hw
    ·simp at hw
    ·rename_i hc
     exact⟨fun h5=>hc (.inl h5),by cases e with|true=>rfl|false=>exact absurd (.inr (.inr rfl)) hc⟩
   have hr:∀ x∈r,qz x.1≠5∧x.2=true:=by
    split at h
    ·exact qiq r _ _ _ _ _ h
    ·split at h
     ·exact qiq r _ _ _ _ _ h
     ·exact qiq r _ _ _ _ _ h
   intro x hx'
   rcases List.mem_cons.1 hx' with rfl|hx'
   ·exact hx
   ·exact hr x hx'
theorem q3l {text:Bytes} (h:(jz text).1=none):∀ x∈zr text,begF x.1=false∧x.2=true:=fun x hx=>by
 rw [← qlf] at h
 obtain⟨h1,h2⟩:=qiq _ _ _ _ _ _ h x hx
 exact⟨by simp [begF,h1],h2⟩
theorem qkb {n:Nat} {fig l:Bytes} (hf:wu fig) (h:l <+: wh n fig) (hne:l≠[]):begF l=true:=by
 have h10:10∉l:=qi4 h (qbx n hf)
 have h58:(58:UInt8)∉l:=qi4 h fun h'=>by
  unfold wh at h'
  rcases List.mem_append.1 h' with h'|h'
  ·revert h';decide
  ·rcases List.mem_append.1 h' with h'|h'
   ·exact qed n (by decide) h'
   ·rcases List.mem_cons.1 h' with h'|h'
    ·simp at h'
    ·exact qoh hf (by decide) h'
 obtain⟨c,q,rfl⟩:=List.exists_cons_of_ne_nil hne
 have hc:c=37:=by
  obtain⟨t,ht⟩:=h
  unfold wh ze at ht
  exact (List.cons.inj ht).1
 subst hc
 have hk:=qqi h10 (fun hb=>by
  have:=hb 37 (by simp)
  revert this
  decide)
 simp only [begF,List.head?_cons,true_and,decide_eq_true_eq]
 rw [hk.2]
 rw [if_neg (by simp),if_neg (by simp [wl]),if_neg (fun h=>h58 h.1)]
theorem q8w {n:Nat} {fig body l:Bytes} (hf:wu fig) (h:l <+: recL n fig body) (hne:l≠[]):begF (upto 10 l)=true:=by
 rcases qfx (show l <+: wh n fig++10::(body++yu n) from h) with h | ⟨r,rfl,hr⟩
 ·rw [w7 (qi4 h (qbx n hf))]
  exact qkb hf h hne
 ·cases r with
  |nil=>
   rw [List.append_nil,w7 (qbx n hf)]
   exact qkb hf (List.prefix_refl _) (by simp [wh,ze])
  |cons c r=>
   have:c=10:=by obtain⟨t,ht⟩:=hr;exact (List.cons.inj ht).1
   subst this
   rw [v8 _ (qbx n hf)]
   exact qkb hf (List.prefix_refl _) (by simp [wh,ze])
theorem ze7 {b:Bytes} (x:Bytes) (hg:yq b):begF (upto 10 (recF b++x))=true:=by
 rw [qpo]
 have hx:wu (sumF b):=q3d (addP 0 b)
 unfold recL
 rw [List.append_assoc,List.cons_append,v8 _ (qbx _ hx)]
 exact qkb hx (List.prefix_refl _) (by simp [wh,ze])
theorem qti:∀ (n:Nat) (l:Bytes) (k a:Nat),l.length≤n→∀ x∈vi k a l,x.text.length≤l.length
 |n,l,k,a,hn,x,hx=>by
  by_cases h:l=[]
  ·subst h;rw [qar] at hx;simp at hx
  ·have hlt:=wy (c:=10) h
   cases n with
   |zero=>omega
   |succ n=>
    rw [qat h] at hx
    rcases List.mem_cons.1 hx with rfl|hx
    ·exact ko 10 l
    ·have:=qti n (past 10 l) (k+1) (a+(upto 10 l).length+1) (by omega) x hx
     omega
theorem qyw {out:List qu} {e:qu} {f:Fld} (h:out[out.length - 1]? = some e):addF out f=out.set (out.length - 1) ⟨e.kind,e.id,e.fields++[f]⟩:=by
 have hl:out.getLast? = some e:=by rw [List.getLast?_eq_getElem?];exact h
 have hne:out≠[]:=fun e0=>by subst e0;simp at hl
 unfold addF
 rw [hl]
 have hd:=qp9 hl
 simp only
 generalize hq:out.dropLast=q at hd
 subst hd
 simp
theorem qpw (out:List qu) (f:Fld):(addF out f).length=out.length:=by
 unfold addF
 cases h:out.getLast? with
 |none=>rfl
 |some x=>
  have hne:out≠[]:=fun e0=>by subst e0;simp at h
  have:=List.length_pos_iff.2 hne
  simp
  omega
def qyp (l:Bytes) (r:List Bytes) (o:List qu) (h:List Bytes):Option (List qu):=
 if [32,32] <+: l then if o=[] then none else kv r o (h++[l.drop 2])
 else match begR l with
  |none=>none
  |some (k,n)=>if 40≤o.length then none else kv r (o++[⟨k,n,[]⟩]) h
def qdt (held:List Bytes):List Bytes→Bool
 | []=>decide (held≠[])
 |l::_=>decide (held≠[]∧¬ [32,32,32] <+: l)
def qnr (R:List Bytes) (out:List qu) (held:List Bytes) (o:List qu) (h:List Bytes):Prop:=
 if qdt held R=true then y7 out held=some o∧h=[] else o=out∧h=held
theorem q5y {l:Bytes} {r:List Bytes} {out o:List qu} {held h:List Bytes} (e:qnr (l::r) out held o h):kv (l::r) out held=qyp l r o h∧(h=[]∨[32,32,32] <+: l):=by
 unfold qnr at e
 rw [kv]
 by_cases hc:held≠[]∧¬ [32,32,32] <+: l
 ·rw [if_pos (by simp [qdt,hc.1,hc.2])] at e
  rw [if_pos hc,e.1,e.2]
  exact⟨rfl,.inl rfl⟩
 ·rw [if_neg (by simpa [qdt] using hc)] at e
  rw [if_neg hc,e.1,e.2]
  refine⟨rfl,?_⟩
  by_cases h0:held=[]
  ·exact .inl h0
  ·exact .inr (Classical.byContradiction fun h=>hc ⟨h0,h⟩)
theorem q0g {R:List Bytes} {out:List qu} {held:List Bytes} (h:qdt held R=true) (hu:(zp held).2≠0):kv R out held=none:=by
 cases R with
 |nil=>
  have h0:held≠[]:=of_decide_eq_true h
  rw [kv]
  unfold y7
  rw [if_neg h0,if_neg hu]
 |cons l q=>
  obtain⟨h0,hl⟩:held≠[]∧¬ [32,32,32] <+: l:=of_decide_eq_true h
  have hf:y7 out held=none:=by unfold y7;rw [if_neg h0,if_neg hu]
  rw [kv,if_pos ⟨h0,hl⟩,hf]
  rfl
theorem q0h {out:List qu} {held:List Bytes} (h0:held≠[]) (hu:(zp held).2=0):y7 out held=some (addF out (zp held).1):=by
 unfold y7
 rw [if_neg h0,if_pos hu]
def qiy (l:Bytes):Nat→Option (Int×Int)
 | 0=>none
 |j+1=>tryR l (qiy l j) ((j:Int)+1)
theorem q4c (l:Bytes):qiy l 3=begR l:=rfl
end Go.Pl
namespace Go.Proofs.YtmoklbacdkmkaaaGreatDoor
open Go Go.Av Go.RowKit Go.Proofs Go.Pl
theorem q10 (x:Option (List qu)):Pure (qcp x):=by
 rcases x with _|b
 ·exact kj (qet _) (qs _)
 ·exact kj (qet _) (qs _)
theorem q1u (l w:Bytes) (b:Bool) (h:decide (w <+: l)=b) (st:List AObj):qp E 122 [Sv l,Sv w] st fun r st'=>r=Bv b∧st'=st:=h▸qld l w st
def ql6 (l:Bytes) (j:Nat) (a b:Int):Prop:=(a=0∧b=0∧qiy l j=none)∨(1≤a∧qiy l j=some (a,b))
set_option maxHeartbeats 8000000 in
theorem q3s (text:Bytes) (st:List AObj) (hl:text.length<1000000):qp E 65 [Sv text] st fun r st'=>r=qcp (decF text)∧st'=st:=by
 refine zl [.s text] (q10 _) Tryz.func65 rfl rfl (fun _=>rfl) rfl fun S0=>?_
 rw [← zan]
 by_cases hbig:50000<text.length
 ·have hd:qcq text=none:=if_pos hbig
  rw [hd]
  unfold qcp
  apply qe []
  repeat' (first|apply And.intro|(intro h;try exact cDd)|exact cSd|apply qc []|refine exr ?_|refine qi ?_)
 have hdf:qcq text=match kv ((lns text).map fun x=>x.text) [] [] with
  |none=>none
  |some b=>if eErr b = .no∧encF b=text then some b else none:=if_neg hbig
 have hsp:=fun st=>qir text st (by omega)
 have hlm:((lns text).map lnA).length=(lns text).length:=by simp
 have hln:(lns text).length≤text.length:=qcw _ text 0 0 (Nat.le_refl _)
 have hll:=qti _ text 0 0 (Nat.le_refl _)
 have hlt:∀ x∈lns text,x.text.length≤text.length:=hll
 have h0i:Lib.itoa 0=[48]:=by rw [qfh (by decide),Lib.decDigits_one (by decide)];rfl
 generalize lns text=L at *
 clear hll
 apply qe []
 repeat' (first|apply And.intro|(intro h;try exact cDd)|exact⟨Tryz.call61⟩|refine cpe hsp ?_|exact cSd|apply qc []|refine exr ?_|refine qi ?_)
 refine jf (X:=Nat×List qu×List Bytes) (fun (k,out,held)=>⟨[(0,.s text),(4,.tp 0),(5,.tp 1),(6,.a (lnsA L)),(7,.i k)],[(0,some (.own 3 97 (out.map ji))),(1,some (.tip 1 9 (held.map fun x=>Sv x)))],2⟩)
  (fun (k,out,held)=>OutG out k∧out.length≤40∧held.length≤k∧k≤L.length+1∧(held≠[]→out≠[])∧(∀ s∈held,s.length<1000000) ∧
   ((k≤L.length∧kv ((L.map fun x=>x.text).drop k) out held=kv (L.map fun x=>x.text) [] [])∨(k=L.length+1∧kv (L.map fun x=>x.text) [] []=some out)))
  (fun (k,out,held)=>L.length+1 - k) (0,[],[]) ⟨by intro x hx;simp at hx,by simp,by simp,by omega,by simp,by simp,.inl ⟨by omega,rfl⟩⟩ ?_ ?_
 ·skip
  repeat' (first|apply And.intro|(intro h;try exact cDd)|exact cSd|apply qc []|refine exr ?_|refine qi ?_)
  all_goals (simp;done)
 ·rintro⟨k,out,held⟩ ⟨hG,h40,hh,hk,hne,hhb,hR⟩
  have hmo:(out.map ji).length=out.length:=by simp
  have hmh:(held.map fun x=>Sv x).length=held.length:=by simp
  rcases hR with⟨hk,hR⟩ | ⟨rfl,hR⟩
  ·have hun:=fun st=>qjv held st ⟨by omega,hhb⟩
   unfold qb4 at hun
   by_cases hkn:k=L.length
   ·-- the end: what is held is flushed
    rw [hkn,List.drop_of_length_le (by simp)] at hR
    by_cases h0:held=[]
    ·subst h0
     rw [kv] at hR
     unfold y7 at hR
     rw [if_pos rfl] at hR
     apply qe []
     repeat' (first|apply And.intro|(intro h;try exact cDd)|(refine Exists.intro (k+1,out,[]) ⟨⟨hG.mono (by omega),h40,by simp,by omega,by simp,by simp,.inr ⟨by omega,hR.symm⟩⟩,by simp only;omega,?_⟩)|exact cSd|apply qc []|refine exr ?_|refine qi ?_)
     all_goals (simp;done)
    ·have hz:0<held.length:=List.length_pos_iff.2 h0
     have hop:0<out.length:=List.length_pos_iff.2 (hne h0)
     by_cases hu:(zp held).2=0
     ·have hgf:=qhp hu
      rw [kv,q0h h0 hu] at hR
      rw [hu] at hun
      generalize (zp held).1=f at hgf hun hR
      obtain⟨e,he⟩:∃ e,out[out.length - 1]? = some e:=⟨_,List.getElem?_eq_getElem (by omega)⟩
      have heA:(out.map ji)[out.length - 1]? = some (ji e):=by simp [he]
      have hef:=(hG e (List.mem_of_getElem? he)).2.1
      have hmf:(e.fields.map fldA).length=e.fields.length:=by simp
      have hadd:=qyw (f:=f) he
      have hal:=qpw out f
      obtain⟨fk,fv⟩:=f
      apply qe []
      repeat' (first|apply And.intro|(intro h;try exact cDd)|exact⟨Tryz.call110⟩|refine cpe hun ?_|(refine qg3 (i:=out.length - 1) rfl rfl rfl (congrArg (fun x=>some (IntKind.i64,x)) (by omega)) rfl rfl (by omega) ?_)|(refine qjq (i:=out.length - 1) (j:=2) rfl rfl rfl rfl heA rfl rfl ?_)|(refine qmy (i:=out.length - 1) (j:=2) (z:=ji e) (z':=.ag [Iv e.kind,Iv e.id,.sl 2 (e.fields.map fldA++[fldA (fk,fv)]) none]) (u:=.sl 2 (e.fields.map fldA++[fldA (fk,fv)]) none) rfl rfl rfl rfl rfl rfl heA rfl rfl ?_)|(refine Exists.intro (k+1,addF out (fk,fv),[]) ⟨⟨qyv hG hgf,by omega,by simp,by omega,by simp,by simp,.inr ⟨by omega,hR.symm⟩⟩,by simp only;omega,?_⟩)|exact cSd|apply qc []|refine exr ?_|refine qi ?_)
      all_goals first|(simp;done)|(rw [hadd,List.map_set];simp [ji,jw,List.map_append];done)
     ·have hnn:qcq text=none:=by
       rw [hdf,← hR,kv]
       unfold y7
       rw [if_neg h0,if_neg hu]
      rw [hnn]
      unfold qcp
      generalize (zp held).2=n at hun hu
      generalize (zp held).1=f at hun
      obtain⟨fk,fv⟩:=f
      apply qe []
      repeat' (first|apply And.intro|(intro h;try exact cDd)|exact⟨Tryz.call110⟩|refine cpe hun ?_|exact cSd|apply qc []|refine exr ?_|refine qi ?_)
   ·-- a line
    obtain⟨x,hx⟩:∃ x,L[k]? = some x:=⟨_,List.getElem?_eq_getElem (by omega)⟩
    have hxm:(L.map lnA)[k]? = some (lnA x):=by simp [hx]
    have hxl:=hlt x (List.mem_of_getElem? hx)
    have hdr:(L.map fun x=>x.text).drop k=x.text::(L.map fun x=>x.text).drop (k+1):=by
     rw [List.drop_eq_getElem_cons (by simp;omega)]
     obtain⟨_,h⟩:=List.getElem?_eq_some_iff.1 hx
     simp [h]
    rw [hdr] at hR
    have hb3:=fun st=>qld x.text [32,32,32] st
    have hb2:=fun st=>qld x.text [32,32] st
    have hpre:[32,32,32] <+: x.text→[32,32] <+: x.text:=fun ⟨q,hq⟩=>⟨[32]++q,by rw [← hq];rfl⟩
    have hmain:qcq text=none∧(held≠[]∧¬ [32,32,32] <+: x.text∧(zp held).2≠0)∨∃ (o:List qu) (h:List Bytes),(qyp x.text ((L.map fun x=>x.text).drop (k+1)) o h=kv (L.map fun x=>x.text) [] []∧(h=[]∨[32,32,32] <+: x.text))∧OutG o (k+1)∧o.length≤40∧h.length≤k∧(h≠[]→o≠[])∧(∀ s∈h,s.length<1000000) ∧
      ((o=out∧h=held∧held=[])∨(o=out∧h=held∧0<held.length∧[32,32,32] <+: x.text)∨(h=[]∧0<held.length∧¬ [32,32,32] <+: x.text∧∃ (e:qu) (fk fv:Bytes),(out.map ji)[out.length - 1]? = some (ji e)∧e.fields.length≤k∧o=out.set (out.length - 1) ⟨e.kind,e.id,e.fields++[(fk,fv)]⟩∧0<out.length∧∀ st,qp E 110 [Ss held] st fun r st'=>r = .tu [fldA (fk,fv),Iv 0]∧st'=st)):=by
     have step:∀ (o:List qu) (h:List Bytes),qnr (x.text::(L.map fun x=>x.text).drop (k+1)) out held o h→qyp x.text ((L.map fun x=>x.text).drop (k+1)) o h=kv (L.map fun x=>x.text) [] []∧(h=[]∨[32,32,32] <+: x.text):=fun o h e=>by
      obtain⟨g1,g2⟩:=q5y e
      exact⟨by rw [← g1,hR],g2⟩
     by_cases hfl:held≠[]∧¬ [32,32,32] <+: x.text
     ·have hf:qdt held (x.text::(L.map fun x=>x.text).drop (k+1))=true:=by simp [qdt,hfl.1,hfl.2]
      by_cases hu:(zp held).2=0
      ·have hop:0<out.length:=List.length_pos_iff.2 (hne hfl.1)
       have hfo:=q0h (out:=out) hfl.1 hu
       have hgf:=qhp hu
       rw [hu] at hun
       obtain⟨e,he⟩:∃ e,out[out.length - 1]? = some e:=⟨_,List.getElem?_eq_getElem (by omega)⟩
       refine .inr ⟨addF out (zp held).1,[],step _ _ ?_,qyv hG hgf,by rw [qpw];exact h40,by simp,by simp,by simp,.inr (.inr ⟨rfl,List.length_pos_iff.2 hfl.1,hfl.2,e,_,_,by simp [he],(hG e (List.mem_of_getElem? he)).2.1,qyw he,hop,hun⟩)⟩
       unfold qnr
       rw [if_pos hf]
       exact⟨hfo,rfl⟩
      ·exact .inl ⟨by rw [hdf,← hR,q0g hf hu],hfl.1,hfl.2,hu⟩
     ·have hf:¬ qdt held (x.text::(L.map fun x=>x.text).drop (k+1))=true:=by simpa [qdt] using hfl
      refine .inr ⟨out,held,step _ _ ?_,hG.mono (by omega),h40,hh,hne,hhb,?_⟩
      ·unfold qnr
       rw [if_neg hf]
       exact⟨rfl,rfl⟩
      ·by_cases h0:held=[]
       ·exact .inl ⟨rfl,rfl,h0⟩
       ·exact .inr (.inl ⟨rfl,rfl,List.length_pos_iff.2 h0,Classical.byContradiction fun h=>hfl ⟨h0,h⟩⟩)
    rcases hmain with⟨hnn,h0,hp3,hu⟩ | ⟨o,h,⟨hst,hh0⟩,hG',h40',hh',hne',hhb',hcase⟩
    ·have hz:0<held.length:=List.length_pos_iff.2 h0
     rw [decide_eq_false hp3] at hb3
     rw [hnn]
     unfold qcp
     generalize (zp held).2=n at hun hu
     generalize (zp held).1=f at hun
     obtain⟨fk,fv⟩:=f
     apply qe []
     repeat' (first|apply And.intro|(intro h;try exact cDd)|(refine Exists.intro (k) ⟨by omega,_,hxm,?_⟩)|exact⟨Tryz.call122⟩|refine cpe hb3 ?_|exact⟨Tryz.call110⟩|refine cpe hun ?_|exact cSd|apply qc []|refine exr ?_|refine qi ?_)
    clear hR hG h40 hh hne hhb
    unfold qyp at hst
    have hmo':(o.map ji).length=o.length:=by simp
    have hmh':(h.map fun x=>Sv x).length=h.length:=by simp
    by_cases h2:[32,32] <+: x.text
    ·have h2l:2≤x.text.length:=h2.length_le
     rw [decide_eq_true h2] at hb2
     rw [if_pos h2] at hst
     by_cases ho:o=[]
     ·rw [if_pos ho] at hst
      have hnn:qcq text=none:=by rw [hdf,← hst]
      rw [hnn]
      unfold qcp
      rcases hcase with⟨rfl,rfl,h0⟩ | ⟨rfl,rfl,h0,hp3⟩ | ⟨_,_,_,_,_,_,_,_,e,h0,_⟩
      ·have hz:h.length=0:=by simp [h0]
       have hz2:o.length=0:=by simp [ho]
       apply qe []
       repeat' (first|apply And.intro|(intro h;try exact cDd)|(refine Exists.intro (k) ⟨by omega,_,hxm,?_⟩)|exact⟨Tryz.call122⟩|refine cpe hb2 ?_|exact cSd|apply qc []|refine exr ?_|refine qi ?_)
      ·have hz2:o.length=0:=by simp [ho]
       rw [decide_eq_true hp3] at hb3
       apply qe []
       repeat' (first|apply And.intro|(intro h;try exact cDd)|(refine Exists.intro (k) ⟨by omega,_,hxm,?_⟩)|exact⟨Tryz.call122⟩|refine cpe hb3 ?_|exact⟨Tryz.call122⟩|refine cpe hb2 ?_|exact cSd|apply qc []|refine exr ?_|refine qi ?_)
      ·exact absurd (congrArg List.length (ho.symm.trans e)) (by simp;omega)
     ·rw [if_neg ho] at hst
      have hz2:0<o.length:=List.length_pos_iff.2 ho
      have hhs:∀ s∈h++[x.text.drop 2],s.length<1000000:=fun s hs=>by
       rcases List.mem_append.1 hs with hs|hs
       ·exact hhb' s hs
       ·obtain rfl:=List.mem_singleton.1 hs
        rw [List.length_drop]
        omega
      obtain⟨hn,hhn⟩:∃ hn,hn=h++[x.text.drop 2]:=⟨_,rfl⟩
      have hnl:hn.length≤k+1:=by rw [hhn];simp;omega
      rw [← hhn] at hst hhs
      rcases hcase with⟨rfl,rfl,h0⟩ | ⟨rfl,rfl,h0,hp3⟩ | ⟨rfl,h0,hp3,e,fk,fv,heA,hef,hadd,hop,hun'⟩
      case' neg.inl=>have hz:h.length=0:=by simp [h0]
      case' neg.inr.inl=>rw [decide_eq_true hp3] at hb3
      case' neg.inr.inr=>
       rw [decide_eq_false hp3] at hb3
       have hmf:(e.fields.map fldA).length=e.fields.length:=by simp
       have hol:out.length=o.length:=by rw [hadd,List.length_set]
       have hsl:((out.map ji).set (out.length - 1) (.ag [Iv e.kind,Iv e.id,.sl 2 (e.fields.map fldA++[fldA (fk,fv)]) none])).length=o.length:=by simp [hol]
      all_goals
       apply qe []
       repeat' (first|apply And.intro|(intro h;try exact cDd)|(refine Exists.intro (k) ⟨by omega,_,hxm,?_⟩)|exact⟨Tryz.call122⟩|refine cpe hb3 ?_|exact⟨Tryz.call122⟩|refine cpe hb2 ?_|exact⟨Tryz.call110⟩|refine cpe hun' ?_|(refine qg3 (i:=out.length - 1) rfl rfl rfl (congrArg (fun x=>some (IntKind.i64,x)) (by omega)) rfl rfl (by omega) ?_)|(refine qjq (i:=out.length - 1) (j:=2) rfl rfl rfl rfl heA rfl rfl ?_)|(refine qmy (i:=out.length - 1) (j:=2) (z:=ji e) (z':=.ag [Iv e.kind,Iv e.id,.sl 2 (e.fields.map fldA++[fldA (fk,fv)]) none]) (u:=.sl 2 (e.fields.map fldA++[fldA (fk,fv)]) none) rfl rfl rfl rfl rfl rfl heA rfl rfl ?_)|(refine Exists.intro (k+1,o,hn) ⟨⟨hG',h40',hnl,by omega,fun _=>ho,hhs,.inl ⟨by omega,hst⟩⟩,by simp only;omega,?_⟩)|exact cSd|apply qc []|refine exr ?_|refine qi ?_)
       all_goals first|(simp [hhn];done)|(rw [hadd,List.map_set];simp [ji,jw,List.map_append];done)
    ·rw [decide_eq_false h2] at hb2
     rw [if_neg h2] at hst
     obtain rfl:h=[]:=hh0.resolve_right fun q=>h2 (hpre q)
     rcases hcase with⟨rfl,rfl,h0⟩ | ⟨_,_,_,hp3⟩ | ⟨_,h0,hp3,e,fk,fv,heA,hef,hadd,hop,hun'⟩
     case neg.inr.inl=>exact absurd (hpre hp3) h2
     case' neg.inr.inr=>
      rw [decide_eq_false hp3] at hb3
      have hmf:(e.fields.map fldA).length=e.fields.length:=by simp
      have hol:out.length=o.length:=by rw [hadd,List.length_set]
      have hsl:((out.map ji).set (out.length - 1) (.ag [Iv e.kind,Iv e.id,.sl 2 (e.fields.map fldA++[fldA (fk,fv)]) none])).length=o.length:=by simp [hol]
     all_goals
      apply qe []
      repeat' (first|apply And.intro|(intro h;try exact cDd)|(refine Exists.intro (k) ⟨by omega,_,hxm,?_⟩)|exact⟨Tryz.call122⟩|refine cpe hb3 ?_|exact⟨Tryz.call122⟩|refine cpe hb2 ?_|exact⟨Tryz.call110⟩|refine cpe hun' ?_|(refine qg3 (i:=out.length - 1) rfl rfl rfl (congrArg (fun x=>some (IntKind.i64,x)) (by omega)) rfl rfl (by omega) ?_)|(refine qjq (i:=out.length - 1) (j:=2) rfl rfl rfl rfl heA rfl rfl ?_)|(refine qmy (i:=out.length - 1) (j:=2) (z:=ji e) (z':=.ag [Iv e.kind,Iv e.id,.sl 2 (e.fields.map fldA++[fldA (fk,fv)]) none]) (u:=.sl 2 (e.fields.map fldA++[fldA (fk,fv)]) none) rfl rfl rfl rfl rfl rfl heA rfl rfl ?_)|exact cSd|apply qc []|refine exr ?_|refine qi ?_)
      refine jf (X:=Nat×Int×Int) (fun (j,a,b)=>⟨[(0,.s text),(4,.tp 0),(5,.tp 1),(6,.a (lnsA L)),(7,.i k),(11,.s x.text),(12,.bx 2 0),(13,.i ((j:Int)+1))],[(0,some (.own 3 97 (o.map ji))),(1,some (.tip 1 9 [])),(2,some (.cells 97 [.i a,.i b,.a zm]))],3⟩)
       (fun (j,a,b)=>j≤3∧ql6 x.text j a b) (fun (j,_,_)=>3 - j) (0,0,0) ⟨by omega,.inl ⟨rfl,rfl,rfl⟩⟩ ?_ ?_
      ·skip
       repeat' (first|apply And.intro|(intro h;try exact cDd)|exact cSd|apply qc []|refine exr ?_|refine qi ?_)
       all_goals first|(simp;done)|(rw [hadd,List.map_set];simp [ji,jw,List.map_append];done)
      ·rintro⟨j,a,b⟩ ⟨hj,hta⟩
       by_cases hj3:j=3
       ·subst hj3
        unfold ql6 at hta
        rw [q4c] at hta
        rcases hta with⟨rfl,rfl,hb⟩ | ⟨ha,hb⟩
        ·rw [hb] at hst
         have hnn:qcq text=none:=by rw [hdf,← hst]
         rw [hnn]
         unfold qcp
         apply qe []
         repeat' (first|apply And.intro|(intro h;try exact cDd)|exact cSd|apply qc []|refine exr ?_|refine qi ?_)
        ·rw [hb] at hst
         simp only at hst
         by_cases h40o:40≤o.length
         ·rw [if_pos h40o] at hst
          have hnn:qcq text=none:=by rw [hdf,← hst]
          rw [hnn]
          unfold qcp
          apply qe []
          repeat' (first|apply And.intro|(intro h;try exact cDd)|exact cSd|apply qc []|refine exr ?_|refine qi ?_)
         ·rw [if_neg h40o] at hst
          have hG2:OutG (o++[⟨a,b,[]⟩]) (k+1):=fun y hy=>by
           rcases List.mem_append.1 hy with hy|hy
           ·exact hG' y hy
           ·obtain rfl:=List.mem_singleton.1 hy
            exact⟨by simp,by simp,q8u hb⟩
          apply qe []
          repeat' (first|apply And.intro|(intro h;try exact cDd)|(refine q7c (ys:=[ji ⟨a,b,[]⟩]) rfl rfl rfl rfl rfl rfl rfl rfl (by simp;omega) rfl ?_)|(refine Exists.intro (k+1,o++[⟨a,b,[]⟩],[]) ⟨⟨hG2,by simp;omega,by simp,by omega,by simp,by simp,.inl ⟨by omega,hst⟩⟩,by simp only;omega,?_⟩)|exact cSd|apply qc []|refine exr ?_|refine qi ?_)
          all_goals (simp;done)
       ·obtain⟨H,hH⟩:∃ H,H=yr ((j:Int)+1):=⟨_,rfl⟩
        have hj012:j=0∨j=1∨j=2:=by omega
        have hHl:H.length≤9:=by
         rw [hH]
         rcases hj012 with rfl|rfl|rfl <;> decide
        have hli:∀ st,qp E 123 [ji ⟨(j:Int)+1,0,[]⟩] st fun r st'=>r=Sv (H++[48])∧st'=st:=fun st=>by
         have:=qxh ⟨(j:Int)+1,0,[]⟩ st (by simp) (by simp)
         unfold kf at this
         rw [if_pos (by constructor <;> simp only <;> omega),h0i,← hH] at this
         exact this
        have htk:(H++[48]).take H.length=H:=List.take_left
        have htr:qiy x.text (j+1)=tryR x.text (qiy x.text j) ((j:Int)+1):=rfl
        unfold tryR at htr
        rw [← hH] at htr
        have htr2:(if H <+: x.text then match numZ (x.text.drop H.length) with
         |some n=>some ((j:Int)+1,n)
         |none=>qiy x.text j else qiy x.text j)=qiy x.text (j+1):=htr.symm
        by_cases hp:H <+: x.text
        ·rw [if_pos hp] at htr2
         have hpl:=hp.length_le
         have hbH:=fun st=>q1u x.text ((H++[48]).take H.length) true (by rw [htk];exact decide_eq_true hp) st
         cases hz:numZ (x.text.drop H.length) with
         |none=>
          rw [hz] at htr2
          have hnu:∀ st,qp E 106 [Sv (x.text.drop H.length)] st fun r st'=>r = .tu [Iv 0,Bv false]∧st'=st:=fun st=>qgn _ st (by simp;omega) hz
          have hta':ql6 x.text (j+1) a b:=by unfold ql6 at hta ⊢;rw [← htr2];exact hta
          apply qe []
          repeat' (first|apply And.intro|(intro h;try exact cDd)|exact⟨Tryz.call123⟩|refine cpe hli ?_|(refine Exists.intro H.length ⟨by simp,?_⟩)|exact⟨Tryz.call122⟩|refine cpe hbH ?_|exact⟨Tryz.call106⟩|refine cpe hnu ?_|(refine Exists.intro (j+1,a,b) ⟨⟨by omega,hta'⟩,by simp only;omega,?_⟩)|exact cSd|apply qc []|refine exr ?_|refine qi ?_)
          all_goals first|(simp [htk];done)|(simp [htk];omega)|omega
         |some n=>
          rw [hz] at htr2
          have hnu:∀ st,qp E 106 [Sv (x.text.drop H.length)] st fun r st'=>r = .tu [Iv n,Bv true]∧st'=st:=fun st=>qd1 _ n st (by simp;omega) hz
          have hta':ql6 x.text (j+1) ((j:Int)+1) n:=.inr ⟨by omega,htr2.symm⟩
          apply qe []
          repeat' (first|apply And.intro|(intro h;try exact cDd)|exact⟨Tryz.call123⟩|refine cpe hli ?_|(refine Exists.intro H.length ⟨by simp,?_⟩)|exact⟨Tryz.call122⟩|refine cpe hbH ?_|exact⟨Tryz.call106⟩|refine cpe hnu ?_|(refine Exists.intro (j+1,(j:Int)+1,n) ⟨⟨by omega,hta'⟩,by simp only;omega,?_⟩)|exact cSd|apply qc []|refine exr ?_|refine qi ?_)
          all_goals first|(simp [htk];done)|(simp [htk];omega)|omega
        ·rw [if_neg hp] at htr2
         have hbH:=fun st=>q1u x.text ((H++[48]).take H.length) false (by rw [htk];exact decide_eq_false hp) st
         have hta':ql6 x.text (j+1) a b:=by unfold ql6 at hta ⊢;rw [← htr2];exact hta
         apply qe []
         repeat' (first|apply And.intro|(intro h;try exact cDd)|exact⟨Tryz.call123⟩|refine cpe hli ?_|(refine Exists.intro H.length ⟨by simp,?_⟩)|exact⟨Tryz.call122⟩|refine cpe hbH ?_|(refine Exists.intro (j+1,a,b) ⟨⟨by omega,hta'⟩,by simp only;omega,?_⟩)|exact cSd|apply qc []|refine exr ?_|refine qi ?_)
         all_goals first|(simp [htk];done)|(simp [htk];omega)|omega
  ·have hB:=q97 hG (by omega)
   rw [hR] at hdf
   simp only at hdf
   have hck:=fun st=>qo0 out st hB (by omega)
   by_cases he:eErr out = .no
   ·have hen:=fun st=>qyb out st hB he
    rw [he] at hck
    by_cases ht:encF out=text
    ·rw [if_pos ⟨he,ht⟩] at hdf
     rw [hdf]
     rw [ht] at hen
     refine qvm 4 rfl rfl ?_
     apply qe []
     repeat' (first|apply And.intro|(intro h;try exact cDd)|exact⟨Tryz.call124⟩|refine cpe hck ?_|exact⟨Tryz.call125⟩|refine cpe hen ?_|exact cSd|apply qc []|refine exr ?_|refine qi ?_)
    ·rw [if_neg (fun h=>ht h.2)] at hdf
     rw [hdf]
     unfold qcp
     refine qvm 4 rfl rfl ?_
     apply qe []
     repeat' (first|apply And.intro|(intro h;try exact cDd)|exact⟨Tryz.call124⟩|refine cpe hck ?_|exact⟨Tryz.call125⟩|refine cpe hen ?_|exact absurd ht (by assumption)|exact cSd|apply qc []|refine exr ?_|refine qi ?_)
   ·rw [if_neg (fun h=>he h.1)] at hdf
    rw [hdf]
    have h0:¬ (eErr out).code=0:=fun h=>he ((qdq out).1 h)
    generalize (eErr out).code=c at hck h0
    generalize (eErr out).pos=c2 at hck
    unfold qcp
    refine qvm 4 rfl rfl ?_
    apply qe []
    repeat' (first|apply And.intro|(intro h;try exact cDd)|exact⟨Tryz.call124⟩|refine cpe hck ?_|exact cSd|apply qc []|refine exr ?_|refine qi ?_)
end Go.Proofs.YtmoklbacdkmkaaaGreatDoor
namespace Go.Pl
open Go Go.Proofs Go.Proofs.YtmoklbacdkmkaaaGreatDoor
structure wa where
 gen:Int
 base:Bytes
 batches:List (List qu)
 ends : List Int
 tail:Bytes
def qai:wa:=⟨0,[],[],[],[]⟩
def jt (text:Bytes):ErrV:=if 60000<text.length then .num 1 else match (jz text).1 with
 |none=>.no
 |some (a,n)=>.at' a n
def recsF:Nat→Bytes→Int→List (List qu)→List Int→Bool×List (List qu)×List Int×Bytes
 | 0,l,_,bs,es=>(false,bs,es,l)
 |f+1,l,a,bs,es=>
  if (zb l).1=2 then (false,bs,es,l)
  else if (zb l).1=1 then match decF (zb l).2.1 with
   |some b=>recsF f (l.drop (zb l).2.2.toNat) (a+(zb l).2.2) (bs++[b]) (es++[a+(zb l).2.2])
   |none=>(true,bs,es,l)
  else (true,bs,es,l)
def xb (text:Bytes):Bytes:=(vh text).2
def atH (text:Bytes):Nat:=z0 (xb text).length (xb text)
def y4 (text:Bytes):Bytes:=(xb text).take (atH text)
def qeg (text:Bytes):Bool×List (List qu)×List Int×Bytes:=recsF (text.length+1) ((xb text).drop (atH text)) (((text.length - (xb text).length+atH text:Nat)):Int) [] []
def jv (text:Bytes):ErrV×wa:=
 if 120000<text.length then (.num 1,qai)
 else match jt (y4 text) with
  | .no=>if (qeg text).1=true then (.at' (qeg text).2.1.length 10,qai) else (.no,⟨(vh text).1,y4 text,(qeg text).2.1,(qeg text).2.2.1,(qeg text).2.2.2⟩)
  |e=>(e,qai)
structure qf9 (b:List qu):Prop where
 ok:eErr b = .no
 B:∀ x∈b,EdB x
 len:(encF b).length≤50000
theorem qf9.good {b:List qu} (h:qf9 b):yq (encF b):=q9e h.ok h.B h.len
theorem qq9 {t:Bytes} {b:List qu} (h:decF t=some b):qf9 b∧encF b=t:=by
 obtain⟨h1,h2,h3⟩:=qzy h
 exact⟨⟨h1,q84 h,by rw [h2];exact h3⟩,h2⟩
def recE (b:List qu):Bytes:=recF (encF b)
def wc (bs:List (List qu)):Bytes:=bs.flatMap recE
def qbt (a:Int):List (List qu)→List Int
 | []=>[]
 |b::r=>(a+(recE b).length)::qbt (a+(recE b).length) r
theorem qb2 (b:List qu) (r:List (List qu)):wc (b::r)=recE b++wc r:=rfl
theorem q7l (r:List (List qu)) (b:List qu):wc (r++[b])=wc r++recE b:=by simp [wc]
theorem qsy:∀ (r:List (List qu)) (a:Int) (b:List qu),qbt a (r++[b])=qbt a r++[a+(wc r).length+(recE b).length]
 | [],a,b=>by simp [qbt,wc]
 |x::r,a,b=>by
  rw [List.cons_append,qbt,qbt,qsy r,qb2]
  simp
  omega
theorem qn9:∀ (r:List (List qu)) (a:Int),(qbt a r).length=r.length
 | [],_=>rfl
 |x::r,a=>by rw [qbt];simp [qn9 r]
theorem qsx:∀ (r:List (List qu)) (a:Int),r≠[]→(qbt a r).getLast? = some (a+(wc r).length)
 | [],_,h=>absurd rfl h
 | [x],a,_=>by simp [qbt,wc]
 |x::y::r,a,_=>by
  have:=qsx (y::r) (a+(recE x).length) (by simp)
  rw [qbt,List.getLast?_cons]
  rw [this,qb2 x]
  simp
  omega
theorem q1q (b:List qu):0<(recE b).length:=by
 unfold recE
 rw [qpo]
 simp [recL,wh,ze]
theorem q1s:∀ (f:Nat) (l:Bytes) (a:Int) (xs xs':List (List qu)) (es es':List Int) (t:Bytes),l.length<f→recsF f l a xs es=(false,xs',es',t) →
  ∃ bs,l=wc bs++t∧xs'=xs++bs∧es'=es++qbt a bs∧(∀ b∈bs,qf9 b)∧(zb t).1=2
 | 0,l,a,xs,xs',es,es',t,hl,h=>absurd hl (by omega)
 |f+1,l,a,xs,xs',es,es',t,hl,h=>by
  rw [recsF] at h
  split at h
  ·rename_i h2
   simp only [Prod.mk.injEq,true_and] at h
   obtain⟨rfl,rfl,rfl⟩:=h
   exact⟨[],by simp [wc],by simp,by simp [qbt],by simp,h2⟩
  ·split at h
   ·rename_i h1
    split at h
    ·rename_i b hd
     obtain⟨hg,he⟩:=qq9 hd
     have hrd:zb l=(1,(zb l).2.1,(zb l).2.2):=by rw [← h1]
     obtain⟨_,m,hm,hn⟩:=qip hrd
     rw [← he] at hm hn
     have hm':l=recE b++m:=hm
     have hn':(zb l).2.2=((recE b).length:Int):=hn
     have hpos:=q1q b
     have hlen:l.length=(recE b).length+m.length:=by rw [hm'];simp
     have hdr:l.drop (recE b).length=m:=by
      conv=>lhs;rw [hm']
      rw [List.drop_left]
     rw [hn',Int.toNat_natCast,hdr] at h
     obtain⟨bs,e1,e2,e3,e4,e5⟩:=q1s f m _ _ _ _ _ _ (by omega) h
     refine⟨b::bs,?_,by rw [e2];simp,by rw [e3];simp [qbt],?_,e5⟩
     ·rw [qb2,List.append_assoc,← e1]
      exact hm'
     ·intro x hx
      rcases List.mem_cons.1 hx with rfl|hx
      ·exact hg
      ·exact e4 x hx
    ·simp at h
   ·simp at h
structure qbc (text:Bytes) (b:wa):Prop where
 txt:text=wm b.gen++(b.base++(wc b.batches++b.tail))
 gen:vh text=(b.gen,b.base++(wc b.batches++b.tail))
 parse:jt b.base = .no
 good:∀ x∈b.batches,qf9 x
 tail:(zb b.tail).1=2
 ends : b.ends = qbt ((wm b.gen).length + b.base.length) b.batches
 len:text.length≤120000
def BegP (x:Bytes):Prop:=x=[]∨begF (upto 10 x)=true
theorem q8t {t:Bytes} (h:(zb t).1=2):BegP t:=by
 by_cases h0:t=[]
 ·exact .inl h0
 ·obtain⟨n,fig,body,R,hp,_⟩:=zga h
  obtain⟨_,_,_,_,_,hx⟩:=R
  exact .inr (q8w hx hp h0)
theorem q8s {bs:List (List qu)} {t:Bytes} (hg:∀ b∈bs,qf9 b) (h:(zb t).1=2):BegP (wc bs++t):=by
 cases bs with
 |nil=>exact q8t h
 |cons b r=>
  refine .inr ?_
  rw [qb2,List.append_assoc]
  exact ze7 _ (hg b (by simp)).good
theorem q8r {x:Bytes} (h:BegP x):x=[]∨x.head? = some 37:=by
 rcases h with h|h
 ·exact .inl h
 ·simp only [begF,decide_eq_true_eq] at h
  cases x with
  |nil=>exact .inl rfl
  |cons c r=>
   refine .inr ?_
   have h1:=h.1
   unfold upto at h1
   by_cases hc:c=10
   ·subst hc;simp at h1
   ·simpa [hc] using h1
theorem q1l {l:Bytes} (h:jt l = .no):(∀ p∈zr l,begF p.1=false∧p.2=true)∧l.length≤60000:=by
 unfold jt at h
 split at h
 ·simp at h
 ·split at h
  ·rename_i hp
   exact⟨q3l hp,by omega⟩
  ·simp at h
theorem qjc {text:Bytes} {b:wa} (h:jv text=(.no,b)):qbc text b:=by
 unfold jv at h
 split at h
 ·simp at h
 ·rename_i hlen
  split at h
  ·rename_i hp
   split at h
   ·simp at h
   ·rename_i hc
    simp only [Prod.mk.injEq,true_and] at h
    subst h
    have hs:=qdj text
    have hle:atH text≤(xb text).length:=(qn2 _ _ _ (Nat.le_refl _) (Nat.le_refl _)).2
    have hrl:(xb text).length≤text.length:=by
     conv=>rhs;rw [hs.1]
     unfold xb
     simp
    have hhl:text.length - (xb text).length=(wm (vh text).1).length:=by
     have:text.length=(wm (vh text).1).length+(xb text).length:=by
      conv=>lhs;rw [hs.1]
      unfold xb
      simp
     omega
    have hq:qeg text=(false,(qeg text).2.1,(qeg text).2.2.1,(qeg text).2.2.2):=by
     have:(qeg text).1=false:=by simpa using hc
     rw [← this]
    obtain⟨bs,e1,e2,e3,e4,e5⟩:=q1s _ _ _ _ _ _ _ _ (by simp;omega) (show recsF (text.length+1) _ _ _ _=_ from hq)
    simp only [List.nil_append] at e2 e3
    have hbl:(y4 text).length=atH text:=by unfold y4;simp;omega
    have hrest:xb text=y4 text++(wc bs++(qeg text).2.2.2):=by
     rw [← e1]
     unfold y4
     rw [List.take_append_drop]
    refine⟨?_,?_,hp,?_,e5,?_,by omega⟩
    ·simp only
     rw [e2,← hrest]
     exact hs.1
    ·simp only
     rw [e2,← hrest]
     rfl
    ·simp only
     rw [e2]
     exact e4
    ·simp only
     rw [e2,e3,hbl,hhl]
     simp
  ·rename_i hp
   simp only [Prod.mk.injEq] at h
   exact absurd h.1 hp
def y9 (b:wa):Bytes:=wm b.gen++(b.base++wc b.batches)
def qb9 (b:wa):Int:=match b.ends.getLast? with
 |some e=>e
 |none=>((wm b.gen).length+b.base.length:Nat)
theorem qbc.split {text:Bytes} {b:wa} (h:qbc text b):text=y9 b++b.tail:=by
 have:=h.txt
 unfold y9
 simpa using this
theorem qbc.whole {text:Bytes} {b:wa} (h:qbc text b):qb9 b=((y9 b).length:Int):=by
 unfold qb9
 rw [h.ends]
 by_cases h0:b.batches=[]
 ·rw [h0]
  simp [qbt,y9,h0,wc]
 ·rw [qsx _ _ h0]
  simp [y9]
  omega
theorem qbc.take {text:Bytes} {b:wa} (h:qbc text b):text.take (qb9 b).toNat=y9 b:=by
 rw [h.whole,Int.toNat_natCast]
 conv=>lhs;rw [h.split]
 rw [List.take_left]
theorem q6y {l:Bytes} (h:l≠[]) (hp:∀ p∈zr l,p.2=true):l.getLast? = some 10:=by
 have:∀ (k:Nat) (l:Bytes),l.length≤k→l≠[]→(∀ p∈zr l,p.2=true)→l.getLast? = some 10:=by
  intro k
  induction k with
  |zero=>intro l hl h0;exact absurd (List.length_eq_zero_iff.1 (by omega)) h0
  |succ k ih=>
   intro l hl h0 hp
   rw [wv h0] at hp
   have h10:10∈l:=by simpa using hp _ (List.mem_cons_self ..)
   have e:=wg h10
   by_cases hq:past 10 l=[]
   ·rw [hq] at e
    rw [e]
    simp
   ·have:=ih (past 10 l) (by have:=wy (c:=10) h0;omega) hq fun p hp'=>hp p (by simp [hp'])
    rw [e]
    rw [List.getLast?_append,List.getLast?_cons,this]
    simp
 exact this _ l (Nat.le_refl _) h hp
theorem zfs {l x:Bytes} {n:Int} (h:∀ p∈zr l,p.2=true) (hx:x=[]∨x.head? = some 37) (hp:yl n <+: l++x):yl n <+: l:=by
 rcases qfx hp with h1 | ⟨r,h1,hr⟩
 ·exact h1
 ·by_cases hr0:r=[]
  ·rw [h1,hr0,List.append_nil]
   exact List.prefix_refl _
  ·exfalso
   obtain⟨c,q,rfl⟩:=List.exists_cons_of_ne_nil hr0
   have hc:c=37:=by
    obtain⟨t,ht⟩:=hr
    rcases hx with rfl|hx
    ·simp at ht
    ·rw [← ht] at hx
     simpa using hx
   subst hc
   by_cases hl:l=[]
   ·rw [hl] at h1
    simp [yl,genL] at h1
   ·have hlast:=q6y hl h
    obtain⟨q0,hq0⟩:∃ q0,l=q0++[10]:=by
     have:=qp9 hlast
     exact⟨_,this.symm⟩
    have e:genL++Lib.itoa n++10::[10]=q0++10::(37::q):=by
     have:=h1
     unfold yl at this
     rw [hq0] at this
     simpa using this
    have hu10:10∉genL++Lib.itoa n:=by
     intro h
     rcases List.mem_append.1 h with h|h
     ·revert h;decide
     ·exact qms n h
    have hA:=v8 (c:=10) [10] hu10
    have hB:=xu (c:=10) [10] hu10
    rw [e] at hA hB
    by_cases hq10:10∈q0
    ·have e2:=wg hq10
     have e3:q0++10::(37::q)=upto 10 q0++10::(past 10 q0++10::(37::q)):=by
      conv=>lhs;rw [e2]
      simp
     rw [e3,xu _ (qal 10 q0)] at hB
     have:=congrArg List.length hB
     simp at this
     omega
    ·rw [xu _ hq10] at hB
     simp at hB
theorem q7y {l x y:Bytes} (h:∀ p∈zr l,p.2=true) (hx:vh (l++x)=(0,l++x)) (hy:y=[]∨y.head? = some 37):vh (l++y)=(0,l++y):=by
 refine qo9 fun n r hg e=>?_
 obtain⟨t,ht⟩:=zfs (n:=n) h hy ⟨r,e.symm⟩
 have:vh (l++x)=(n,t++x):=by rw [← ht,List.append_assoc,qnb hg]
 rw [hx] at this
 have h0:(0:Int)=n:=(Prod.mk.inj this).1
 have:=hg.1
 omega
theorem qbc.gen0 {text:Bytes} {b:wa} (h:qbc text b):b.gen=0∨xg b.gen:=by
 have:=(qdj text).2
 rw [h.gen] at this
 exact this
theorem qbc.other {text:Bytes} {b:wa} (h:qbc text b) {bs:List (List qu)} {t:Bytes} (hg:∀ x∈bs,qf9 x) (ht:(zb t).1=2) (hlen:(wm b.gen++(b.base++(wc bs++t))).length≤120000) :
  qbc (wm b.gen++(b.base++(wc bs++t))) ⟨b.gen,b.base,bs,qbt ((wm b.gen).length+b.base.length) bs,t⟩:=by
 refine⟨rfl,?_,h.parse,hg,ht,rfl,hlen⟩
 rcases h.gen0 with h0|h0
 ·have hgen:=h.gen
  have htext:=h.txt
  have e:wm b.gen=[]:=by unfold wm;rw [if_neg (by rw [h0];decide)]
  rw [e,List.nil_append] at htext ⊢
  rw [h0,htext] at hgen
  simp only
  rw [h0]
  exact q7y (fun p hp=>((q1l h.parse).1 p hp).2) hgen (q8r (q8s hg ht))
 ·have e:wm b.gen=yl b.gen:=by unfold wm;rw [if_pos h0]
  simp only
  rw [e,qnb h0]
theorem zdt:zb []=(2,[],0):=by
 unfold zb xq
 rw [if_neg (by simp),if_pos]
 rw [if_neg (by decide)]
 decide
theorem qbc.more {text:Bytes} {b:wa} (h:qbc text b) {x:List qu} (hx:qf9 x) (hl:(y9 b++recE x).length≤120000):qbc (y9 b++recE x) { b with batches:=b.batches++[x],ends:=b.ends++[qb9 b+(recE x).length],tail:=[] }:=by
 have e:wm b.gen++(b.base++(wc (b.batches++[x])++[]))=y9 b++recE x:=by simp [y9,q7l]
 have:=h.other (bs:=b.batches++[x]) (t:=[]) (fun y hy=>by
  rcases List.mem_append.1 hy with hy|hy
  ·exact h.good y hy
  ·obtain rfl:=List.mem_singleton.1 hy
   exact hx) (by rw [zdt]) (by rw [e];exact hl)
 rw [e,qsy,← h.ends] at this
 have hw:((wm b.gen).length+b.base.length+(wc b.batches).length+(recE x).length:Int)=qb9 b+(recE x).length:=by
  rw [h.whole]
  simp [y9]
  omega
 rw [hw] at this
 exact this
def appF (text:Bytes) (x:List qu):ErrV×Bytes:=
 match (jv text).1 with
 | .no=>match eErr x with
  | .no=>if 50000<(encF x).length then (.num 11,[]) else if 120000<qb9 (jv text).2+(recE x).length then (.num 11,[]) else (.no,text.take (qb9 (jv text).2).toNat++recE x)
  |e=>(e,[])
 |e=>(e,[])
end Go.Pl
namespace Go.Proofs.YtmoklbacdkmkaaaGreatDoor
open Go Go.Av Go.RowKit Go.Proofs Go.Pl
theorem qmn (n:Int) (st:List AObj) (h:xg n):qp E 99 [Iv n] st fun r st'=>r = .tu [Sv (yl n),.v .nilIface]∧st'=st:=by
 have h1:=h.1
 have h2:=h.2
 have hl:=qkn (v:=n) (by omega) (by omega)
 have hit:=fun st=>qoi n st (by omega) (by omega)
 refine zl [.i n] (kj (qs _) (qs _)) Tryz.func99 rfl rfl (fun _=>rfl) rfl fun S0=>?_
 apply qe []
 repeat' (first|apply And.intro|(intro h;try exact cDd)|exact⟨Tryz.call155⟩|refine cpe hit ?_|exact cSd|apply qc []|refine exr ?_|refine qi ?_)
 all_goals first|(simp;omega)|(simp [yl,genL];done)
theorem q0m (n:Int) (st:List AObj) (h:¬ xg n):qp E 99 [Iv n] st fun r st'=>r = .tu [Sv [],.ifc 76 (Iv 1)]∧st'=st:=by
 refine zl [.i n] (kj (qs _) (qc7 (qs _))) Tryz.func99 rfl rfl (fun _=>rfl) rfl fun S0=>?_
 unfold xg at h
 apply qe []
 repeat' (first|apply And.intro|(intro h;try exact cDd)|exact cSd|apply qc []|refine exr ?_|refine qi ?_)
theorem q9r (n:Int) (st:List AObj):qp E 77 [Iv n] st fun r st'=>r=Iv ((wm n).length:Nat)∧st'=st:=by
 refine zl [.i n] (qs _) Tryz.func77 rfl rfl (fun _=>rfl) rfl fun S0=>?_
 by_cases hg:xg n
 ·have e:wm n=yl n:=by unfold wm;rw [if_pos hg]
  have hln:=fun st=>qmn n st hg
  rw [e]
  apply qe []
  repeat' (first|apply And.intro|(intro h;try exact cDd)|exact⟨Tryz.call99⟩|refine cpe hln ?_|exact cSd|apply qc []|refine exr ?_|refine qi ?_)
 ·have e:wm n=[]:=by unfold wm;rw [if_neg hg]
  have hln:=fun st=>q0m n st hg
  rw [e]
  apply qe []
  repeat' (first|apply And.intro|(intro h;try exact cDd)|exact⟨Tryz.call99⟩|refine cpe hln ?_|exact cSd|apply qc []|refine exr ?_|refine qi ?_)
theorem zbn (l:Bytes) (st:List AObj):qp E 98 [Sv (genL++l),Sv [35,37,103,101,110,32]] st fun r st'=>r=Sv l∧st'=st:=by
 have:=qj1 (genL++l) [35,37,103,101,110,32] st
 rw [qdb (show [35,37,103,101,110,32] <+: genL++l from List.prefix_append genL l)] at this
 have e:(genL++l).drop ([35,37,103,101,110,32]:Bytes).length=l:=by rw [show ([35,37,103,101,110,32]:Bytes).length=genL.length by rfl,List.drop_left]
 rw [e] at this
 exact this
set_option maxHeartbeats 2000000 in
theorem q4z (text:Bytes) (st:List AObj) (hl:text.length<1000000):qp E 56 [Sv text] st fun r st'=>r = .tu [Iv (vh text).1,Sv (vh text).2]∧st'=st:=by
 refine qx (kj (qs _) (qs _)) (qq Tryz.func56 rfl (Nat.le_of_ble_eq_true rfl) ?_)
 rcases qqt text with⟨n,r,hg,he,ht⟩ | ⟨hno,ht⟩
 ·rw [ht]
  have hn10:10∉genL++Lib.itoa n:=fun h=>by
   rcases List.mem_append.1 h with h|h
   ·revert h;decide
   ·exact qms n h
  have hcut:∀ st,qp E 96 [Sv text,Sv [10,10]] st fun x st'=>x = .tu [Sv (genL++Lib.itoa n),Sv r,Bv true]∧st'=st:=fun st=>by
   have:=qsq text [10,10] st (by omega)
   rw [he,qmt,← List.append_assoc,zhg r hn10] at this
   rw [he,qmt,← List.append_assoc]
   exact this
  have hb:=qkn (v:=n) (by have:=hg.1;omega) (by have:=hg.2;omega)
  have hgl:genL.length=6:=rfl
  have hat:=qmb (v:=n) (by have:=hg.1;omega) (by have:=hg.2;omega)
  repeat' (first|apply qn|apply qf|apply qh|apply qj|apply qg|(apply zf;exact rfl;exact rfl)|(apply qk;exact Tryz.call96;exact hcut _)|(apply qk;exact Tryz.call98;exact zbn _ _))
  refine qfm Tryz.call97 ((qnz (Lib.itoa n) _ (by omega)).mono ?_)
  rintro _ _ ⟨rfl,n',x,rfl,hx⟩
  rcases x with _ | ⟨t',y⟩
  ·simp only at hx
   rw [hat] at hx
   have e:n=n':=by simpa using hx
   subst e
   show AOps _ _ _ _ _ _ _
   have hs:yl n=(genL++Lib.itoa n)++[10,10]:=rfl
   have hs2:¬ yl n≠(genL++Lib.itoa n)++[10,10]:=fun h=>h hs
   repeat' (first|apply qn|apply qf|apply qh|apply qj|apply qg|(apply zf;exact rfl;exact rfl)|(apply jj;(iterate 3 exact rfl))|(apply je;exact rfl)|(apply qy;(iterate 4 exact rfl))|(apply qao;exact cRa)|(apply qfe;exact cRa)|(apply ql;exact rfl;apply qe6;exact cRa)|(apply ql;exact rfl;apply pk_f;exact cRa)|(apply qd;exact rfl;apply vc;exact cAo)|(apply jc;exact rfl;exact rfl;exact cOs)|(apply vt;exact rfl;exact rfl)|apply qv|apply qt|(apply qk;exact Tryz.call99;exact qmn _ _ hg))
   exact qo rfl (ki rfl) ⟨rfl,_,rfl⟩
  ·exact absurd hat (hx n)
 ·rw [ht]
  have hfst:=qsr text [10,10]
  have hct:=fun h=>zcj (l:=text) (m:=[10,10]) h
  have htr:=qe9 (Lib.cut text [10,10]).1 [35,37,103,101,110,32]
  have hcc:=fun st=>qsq text [10,10] st (by omega)
  generalize Lib.cut text [10,10]=c at hfst hct htr hcc
  obtain⟨a,b,d⟩:=c
  simp only at hfst hct htr hcc
  repeat' (first|apply qn|apply qf|apply qh|apply qj|apply qg|(apply zf;exact rfl;exact rfl)|(apply qk;exact Tryz.call96;exact hcc _)|(apply qk;exact Tryz.call98;exact qj1 _ _ _))
  refine qfm Tryz.call97 ((qnz (Lib.trimPrefix a [35,37,103,101,110,32]) _ (by omega)).mono ?_)
  rintro _ _ ⟨rfl,n,x,rfl,hx⟩
  show AOps _ _ _ _ _ _ _
  have hbad:¬ (d=true∧xg n∧yl n=a++[10,10]):=fun ⟨h1,h2,h3⟩=>by
   refine hno n b h2 ?_
   rw [h3]
   exact hct h1
  by_cases hg:xg n
  ·have hll:=qw0 hg
   cases d with
   |false=>
    rcases x with _ | ⟨t',y⟩
    all_goals
     repeat' (first|apply qn|apply qf|apply qh|apply qj|apply qg|(apply zf;exact rfl;exact rfl)|(apply je;exact rfl)|(apply qy;(iterate 4 exact rfl))|(apply qbw;exact cRa)|(apply qa1;exact cRa)|(apply ql;exact rfl;apply qio;exact cRa)|(apply ql;exact rfl;apply pk_t;exact cRa)|(apply qd;exact rfl;apply cd_t;exact cRa)|apply qt|(apply qk;exact Tryz.call99;exact qmn _ _ hg))
     exact qo rfl (ki rfl) ⟨rfl,_,rfl⟩
   |true=>
    have hne:yl n≠a++[10,10]:=fun h=>hbad ⟨rfl,hg,h⟩
    rcases x with _ | ⟨t',y⟩
    all_goals
     repeat' (first|apply qn|apply qf|apply qh|apply qj|apply qg|(apply zf;exact rfl;exact rfl)|(apply jj;(iterate 3 exact rfl))|(apply je;exact rfl)|(apply qy;(iterate 4 exact rfl))|(apply qao;exact cRa)|(apply qfe;exact cRa)|(apply qa1;exact cRa)|(apply ql;exact rfl;apply qe6;exact cRa)|(apply ql;exact rfl;apply pk_t;exact cRa)|(apply ql;exact rfl;apply pk_f;exact cRa)|(apply qd;exact rfl;apply ku;exact cAo)|(apply qd;exact rfl;apply cd_t;exact cRa)|(apply jc;exact rfl;exact rfl;exact cOs)|(apply wt;exact rfl;exact rfl)|(apply vt;exact rfl;exact rfl)|apply qt|(apply qk;exact Tryz.call99;exact qmn _ _ hg))
     exact qo rfl (ki rfl) ⟨rfl,_,rfl⟩
  ·cases d
   all_goals
    rcases x with _ | ⟨t',y⟩
    all_goals
     repeat' (first|apply qn|apply qf|apply qh|apply qj|apply qg|(apply zf;exact rfl;exact rfl)|(apply je;exact rfl)|(apply qy;(iterate 4 exact rfl))|(apply qao;exact cRa)|(apply qbw;exact cRa)|(apply qfe;exact cRa)|(apply qa1;exact cRa)|(apply ql;exact rfl;apply qio;exact cRa)|(apply ql;exact rfl;apply qe6;exact cRa)|(apply ql;exact rfl;apply pk_t;exact cRa)|(apply ql;exact rfl;apply pk_f;exact cRa)|(apply qd;exact rfl;apply cd_t;exact cRa)|(apply wt;exact rfl;exact rfl)|(apply vt;exact rfl;exact rfl)|apply qt|(apply qk;exact Tryz.call99;exact q0m _ _ hg))
     exact qo rfl (ki rfl) ⟨rfl,_,rfl⟩
theorem qhl (n:Int) (st:List AObj):qp E 107 [Iv n] st fun r st'=>r=Bv (decide (xg n))∧st'=st:=by
 refine qx (qs _) (qq Tryz.func107 rfl (Nat.le_of_ble_eq_true rfl) ?_)
 by_cases h1:1≤n
 ·by_cases h2:n≤2147483648
  all_goals
   repeat' (first|apply qn|apply qf|apply qh|apply qj|apply qg|(apply qr;(iterate 3 exact rfl))|(apply qy;(iterate 4 exact rfl))|(apply ya;exact cAo)|(apply ql;exact rfl;apply wx;exact cAo)|apply qt)
   exact qo rfl (q5 rfl) ⟨congrArg Bv (by simp [xg,h1,h2]),_,rfl⟩
 ·skip
  repeat' (first|apply qn|apply qf|apply qh|apply qj|apply qg|(apply qr;(iterate 3 exact rfl))|(apply qy;(iterate 4 exact rfl))|(apply xw;exact cAo)|(apply ql;exact rfl;apply wn;exact cAo)|apply qt)
  exact qo rfl (q5 rfl) ⟨congrArg Bv (by simp [xg,h1]),_,rfl⟩
theorem zg3 {l:Bytes} {k:Nat} (h:10∉l.take k) (hk:l.length≤k∨l.getD k 0=10) (hk2:k<l.length∨l.length≤k):upto 10 l=l.take k:=by
 rcases hk2 with hlt|hge
 ·have e:l.getD k 0=10:=hk.resolve_left (by omega)
  have e2:l=l.take k++10::l.drop (k+1):=by
   conv=>lhs;rw [← List.take_append_drop k l,List.drop_eq_getElem_cons hlt]
   congr 2
   simpa [List.getD,hlt] using e
  conv=>lhs;rw [e2]
  exact v8 _ h
 ·rw [List.take_of_length_le hge] at h ⊢
  exact w7 h
set_option maxHeartbeats 4000000 in
theorem q30 (text:Bytes) (st:List AObj) (hl:text.length<1000000):qp E 60 [Sv text] st fun r st'=>r = .tu [Iv (vh text).1,Sv (vh text).2]∧st'=st:=by
 refine zl [.s text] (kj (qs _) (qs _)) Tryz.func60 rfl rfl (fun _=>rfl) rfl fun S0=>?_
 by_cases h9:text.length<9
 ·have ht:vh text=(0,text):=qo9 fun n r hg e=>by
   have:=q40 n
   rw [e] at h9
   simp [yl,genL] at h9
   omega
  rw [ht]
  apply qe []
  repeat' (first|apply And.intro|(intro h;try exact cDd)|exact cSd|apply qc []|refine exr ?_|refine qi ?_)
 ·have hp6:text.take 6=[35,37,103,101,110,32]↔genL <+: text:=by
   rw [List.prefix_iff_eq_take]
   exact eq_comm
  by_cases hp:genL <+: text
  ·have hp':=hp6.2 hp
   have hd:(text.drop 6).length=text.length - 6:=by simp
   apply qe []
   repeat' (first|apply And.intro|(intro h;try exact cDd)|exact absurd hp' (by assumption)|exact cSd|apply qc []|refine exr ?_|refine qi ?_)
   refine jf (X:=Nat) (fun k=>⟨[(0,.s text),(4,.i k)],[],0⟩) (fun k=>6≤k∧k≤text.length∧10∉(text.drop 6).take (k - 6)) (fun k=>text.length - k) 6 ⟨by omega,by omega,by simp⟩ ?_ ?_
   ·skip
    repeat' (first|apply And.intro|(intro h;try exact cDd)|exact cSd|apply qc []|refine exr ?_|refine qi ?_)
   rintro k ⟨hk6,hk,hno⟩
   have hgd:(text.drop 6).getD (k - 6) 0=text.getD k 0:=by
    simp only [List.getD_eq_getElem?_getD,List.getElem?_drop]
    rw [show 6+(k - 6)=k by omega]
   by_cases hgo:k<text.length∧text.getD k 0≠10
   ·obtain⟨hk1,hk2⟩:=hgo
    have hk3:((text.getD k 0).toNat:Int)≠10:=fun e=>hk2 ((qbf _).1 e)
    have hno2:10∉(text.drop 6).take (k+1 - 6):=by
     rw [show k+1 - 6=(k - 6)+1 by omega]
     refine qc6 (by omega) hno ?_
     rw [hgd]
     exact hk2
    apply qe []
    repeat' (first|apply And.intro|(intro h;try exact cDd)|(refine Exists.intro (k+1) ⟨⟨by omega,by omega,hno2⟩,by omega,?_⟩)|exact cSd|apply qc []|refine exr ?_|refine qi ?_)
   ·have hu:upto 10 (text.drop 6)=(text.drop 6).take (k - 6):=by
     refine zg3 hno ?_ (by omega)
     by_cases hk1:k<text.length
     ·rw [hgd]
      exact .inr (Classical.byContradiction fun h=>hgo ⟨hk1,h⟩)
     ·exact .inl (by omega)
    have hul:((text.drop 6).take (k - 6)).length=k - 6:=by simp;omega
    have hsp:(text.take k).drop 6=(text.drop 6).take (k - 6):=by rw [List.drop_take]
    have htk:vh text=match numZ ((text.drop 6).take (k - 6)) with
     |some n=>if xg n∧[10,10] <+: text.drop k then (n,text.drop (k+2)) else (0,text)
     |none=>(0,text):=by
     unfold vh
     rw [if_pos hp,hu,hul,show 6+(k - 6)=k by omega,show 8+(k - 6)=k+2 by omega]
     try rfl
    rw [htk]
    have hnl:((text.drop 6).take (k - 6)).length<1000000:=by omega
    by_cases hk1:k<text.length
    ·have hk2:text.getD k 0=10:=Classical.byContradiction fun h=>hgo ⟨hk1,h⟩
     have hk3:((text.getD k 0).toNat:Int)=10:=(qbf _).2 hk2
     cases hz:numZ ((text.drop 6).take (k - 6)) with
     |none=>
      rw [← hsp] at hz
      have hnN:=fun st=>qgn _ st (by rw [hsp];omega) hz
      apply qe []
      repeat' (first|apply And.intro|(intro h;try exact cDd)|exact⟨Tryz.call106⟩|refine cpe hnN ?_|exact cSd|apply qc []|refine exr ?_|refine qi ?_)
     |some n=>
      rw [← hsp] at hz
      have hnS:=fun st=>qd1 _ n st (by rw [hsp];omega) hz
      simp only
      by_cases hg:xg n
      ·have hg1:decide (xg n)=true:=decide_eq_true hg
       have hgo:=fun st=>qhl n st
       simp only [hg1] at hgo
       by_cases hk4:text.length≤k+1
       ·have hnp:¬ [10,10] <+: text.drop k:=fun ⟨q,hq⟩=>by
         have:=congrArg List.length hq
         simp at this
         omega
        rw [if_neg (fun h=>hnp h.2)]
        apply qe []
        repeat' (first|apply And.intro|(intro h;try exact cDd)|exact⟨Tryz.call106⟩|refine cpe hnS ?_|exact⟨Tryz.call107⟩|refine cpe hgo ?_|exact cSd|apply qc []|refine exr ?_|refine qi ?_)
       ·have e2:text.drop k=text.getD k 0::text.getD (k+1) 0::text.drop (k+2):=by
         rw [List.drop_eq_getElem_cons hk1,List.drop_eq_getElem_cons (show k+1<text.length by omega)]
         simp [List.getD,hk1,show k+1<text.length by omega]
        by_cases hk5:text.getD (k+1) 0=10
        ·have hk6':((text.getD (k+1) 0).toNat:Int)=10:=(qbf _).2 hk5
         have hk7:¬ ((text.getD (k+1) 0).toNat:Int)≠10:=fun h=>h hk6'
         rw [if_pos ⟨hg,by rw [e2,hk2,hk5];exact⟨_,rfl⟩⟩]
         apply qe []
         repeat' (first|apply And.intro|(intro h;try exact cDd)|exact⟨Tryz.call106⟩|refine cpe hnS ?_|exact⟨Tryz.call107⟩|refine cpe hgo ?_|exact cSd|apply qc []|refine exr ?_|refine qi ?_)
         all_goals exact absurd hk6' (by assumption)
        ·have hk6':¬ ((text.getD (k+1) 0).toNat:Int)=10:=fun e=>hk5 ((qbf _).1 e)
         rw [if_neg (fun h=>by
          obtain⟨q,hq⟩:=h.2
          rw [e2] at hq
          exact hk5 (List.cons.inj (List.cons.inj hq).2).1.symm)]
         apply qe []
         repeat' (first|apply And.intro|(intro h;try exact cDd)|exact⟨Tryz.call106⟩|refine cpe hnS ?_|exact⟨Tryz.call107⟩|refine cpe hgo ?_|exact cSd|apply qc []|refine exr ?_|refine qi ?_)
         all_goals exact absurd hk6' (by assumption)
      ·have hg1:decide (xg n)=false:=decide_eq_false hg
       have hgo:=fun st=>qhl n st
       simp only [hg1] at hgo
       rw [if_neg (fun h=>hg h.1)]
       apply qe []
       repeat' (first|apply And.intro|(intro h;try exact cDd)|exact⟨Tryz.call106⟩|refine cpe hnS ?_|exact⟨Tryz.call107⟩|refine cpe hgo ?_|exact cSd|apply qc []|refine exr ?_|refine qi ?_)
    ·have hke:k=text.length:=by omega
     have hnp:¬ [10,10] <+: text.drop k:=fun ⟨q,hq⟩=>by
      have:=congrArg List.length hq
      simp at this
      omega
     cases hz:numZ ((text.drop 6).take (k - 6)) with
     |none=>
      rw [← hsp] at hz
      have hnN:=fun st=>qgn _ st (by rw [hsp];omega) hz
      apply qe []
      repeat' (first|apply And.intro|(intro h;try exact cDd)|exact⟨Tryz.call106⟩|refine cpe hnN ?_|exact cSd|apply qc []|refine exr ?_|refine qi ?_)
     |some n=>
      rw [← hsp] at hz
      have hnS:=fun st=>qd1 _ n st (by rw [hsp];omega) hz
      simp only
      rw [if_neg (fun h=>hnp h.2)]
      by_cases hg:xg n
      ·have hg1:decide (xg n)=true:=decide_eq_true hg
       have hgo:=fun st=>qhl n st
       simp only [hg1] at hgo
       apply qe []
       repeat' (first|apply And.intro|(intro h;try exact cDd)|exact⟨Tryz.call106⟩|refine cpe hnS ?_|exact⟨Tryz.call107⟩|refine cpe hgo ?_|exact cSd|apply qc []|refine exr ?_|refine qi ?_)
      ·have hg1:decide (xg n)=false:=decide_eq_false hg
       have hgo:=fun st=>qhl n st
       simp only [hg1] at hgo
       apply qe []
       repeat' (first|apply And.intro|(intro h;try exact cDd)|exact⟨Tryz.call106⟩|refine cpe hnS ?_|exact⟨Tryz.call107⟩|refine cpe hgo ?_|exact cSd|apply qc []|refine exr ?_|refine qi ?_)
  ·have hp':text.take 6≠[35,37,103,101,110,32]:=fun h=>hp (hp6.1 h)
   have ht:vh text=(0,text):=by unfold vh;rw [if_neg hp]
   rw [ht]
   apply qe []
   repeat' (first|apply And.intro|(intro h;try exact cDd)|exact absurd hp' (by assumption)|exact cSd|apply qc []|refine exr ?_|refine qi ?_)
@[reducible] def qgk (L : List LnV) : AV := .sl 1 (L.map fun x => Iv (qz x.text)) none
def qhk (L:List LnV):Nat→Bool
 | 0=>false
 |j+1=>match L[j]? with
  |some x=>decide (qz x.text=4∨qz x.text=3)
  |none=>false
theorem qks {L:List LnV} {i:Nat} {x:LnV} (h:L[i]? = some x):(L.map fun x=>Iv (qz x.text))[i]? = some (Iv (qz x.text)):=by simp [h]
theorem qi3 {L:List LnV} {i:Nat} {x:LnV} (h:L[i]? = some x):(L.map lnA)[i]? = some (lnA x):=by simp [h]
theorem qx8 (L:List LnV) (i:Nat) (st:List AObj) (hi:i≤L.length) (hL:L.length<1000000):qp E 180 [qgk L,Iv i] st fun r st'=>r=Bv (qhk L i)∧st'=st:=by
 refine zl [.a (qgk L),.i i] (qs _) Tryz.func180 rfl rfl (fun _=>rfl) rfl fun S0=>?_
 cases i with
 |zero=>
  apply qe []
  repeat' (first|apply And.intro|(intro h;try exact cDd)|exact cSd|apply qc []|refine exr ?_|refine qi ?_)
 |succ j=>
  obtain⟨x,hx⟩:∃ x,L[j]? = some x:=⟨_,List.getElem?_eq_getElem (by omega)⟩
  have hget:=qks hx
  have hp:qhk L (j+1)=decide (qz x.text=4∨qz x.text=3):=by simp only [qhk,hx]
  rw [hp]
  apply qe []
  repeat' (first|apply And.intro|(intro h;try exact cDd)|(refine Exists.intro (j) ⟨by omega,_,hget,?_⟩)|exact cSd|apply qc []|refine exr ?_|refine qi ?_)
  all_goals (simp [*];done)
theorem qwn {L:List LnV} {k:Nat} {x:LnV} (h:L[k]? = some x):(L.drop k).map wb=(x.text,x.ended)::(L.drop (k+1)).map wb:=by
 obtain⟨hlt,he⟩:=List.getElem?_eq_some_iff.1 h
 rw [List.drop_eq_getElem_cons hlt,he]
 rfl
def qhn (L:List LnV) (i:Nat) (x:LnV):List Bytes:=x.text::vw ((L.drop (i+1)).map wb)
theorem q00:∀ (r:List (Bytes×Bool)),(vw r).length≤r.length
 | []=>by simp [vw]
 |(t,e)::r=>by
  have:=q00 r
  rw [vw]
  split <;> simp <;> omega
theorem q01:∀ {r:List (Bytes×Bool)} {n:Nat},(∀ p∈r,p.1.length≤n)→∀ s∈vw r,s.length≤n
 | [],_,_,s,hs=>by simp [vw] at hs
 |(t,e)::r,n,h,s,hs=>by
  rw [vw] at hs
  split at hs
  ·rcases List.mem_cons.1 hs with rfl|hs
   ·exact h (s,e) (by simp)
   ·exact q01 (fun p hp=>h p (by simp [hp])) s hs
  ·simp at hs
structure LnsB (L:List LnV):Prop where
 len:L.length<100000
 val:∀ x∈L,x.text.length<100000
theorem LnsB.said {L:List LnV} (h:LnsB L) {i:Nat} {x:LnV} (hx:L[i]? = some x):LsB (qhn L i x):=by
 have h1:=q00 ((L.drop (i+1)).map wb)
 have h2:=h.len
 have h3:=h.val x (List.mem_of_getElem? hx)
 refine⟨?_,fun s hs=>?_⟩
 ·unfold qhn
  simp at h1 ⊢
  omega
 ·rcases List.mem_cons.1 hs with rfl|hs
  ·omega
  ·have:=q01 (n:=100000) (fun p hp=>by
    obtain⟨y,hy,rfl⟩:=List.mem_map.1 hp
    have:=h.val y (List.mem_of_mem_drop hy)
    simp only [wb]
    omega) s hs
   omega
theorem qqr (L:List LnV) (i:Nat) (x:LnV) (st:List AObj) (hL:LnsB L) (hx:L[i]? = some x):qp E 111 [lnsA L,qgk L,Iv i] st fun r st'=>r=Ss (qhn L i x)∧st'=st:=by
 refine zl [.a (lnsA L),.a (qgk L),.i i] (qlw _) Tryz.func111 rfl rfl (fun _=>rfl) rfl fun S0=>?_
 have hLl:=hL.len
 have hil:=lt_of_getElem? hx
 have hget:=qi3 hx
 have hml:(L.map lnA).length=L.length:=by simp
 apply qe [14]
 repeat' (first|apply And.intro|(intro h;try exact cDd)|(refine Exists.intro (i) ⟨by omega,_,hget,?_⟩)|exact cSd|apply qc [14]|refine exr ?_|refine qi ?_)
 refine jf (X:=Nat×List Bytes) (fun (k,acc)=>⟨[(0,.a (lnsA L)),(1,.a (qgk L)),(7,.tp 0),(8,.i k)],[(0,some (.tip 1 9 (acc.map fun x=>Sv x)))],1⟩) (fun (k,acc)=>i+1≤k∧k≤L.length∧acc++vw ((L.drop k).map wb)=qhn L i x∧acc.length≤k) (fun (k,_)=>L.length - k) (i+1,[x.text]) ⟨by omega,by omega,rfl,by simp⟩ ?_ ?_
 ·skip
  repeat' (first|apply And.intro|(intro h;try exact cDd)|exact cSd|apply qc []|refine exr ?_|refine qi ?_)
  all_goals (simp;done)
 ·rintro⟨k,acc⟩ ⟨hk1,hk2,hacc,hal⟩
  have hmc:(acc.map fun x=>Sv x).length=acc.length:=by simp
  by_cases hk:k<L.length
  ·obtain⟨y,hy⟩:∃ y,L[k]? = some y:=⟨_,List.getElem?_eq_getElem hk⟩
   have hgy:=qi3 hy
   have hky:=qks hy
   rw [qwn hy] at hacc
   by_cases h3:qz y.text=3
   ·rw [qhj h3] at hacc
    apply qe []
    repeat' (first|apply And.intro|(intro h;try exact cDd)|(refine Exists.intro (k) ⟨by omega,_,hgy,?_⟩)|(refine Exists.intro (k) ⟨by omega,_,hky,?_⟩)|(refine Exists.intro (k+1,acc++[y.text]) ⟨⟨by omega,by omega,by simpa using hacc,by simp;omega⟩,by simp only;omega,?_⟩)|exact cSd|apply qc []|refine exr ?_|refine qi ?_)
    all_goals (simp;done)
   ·rw [qmx h3,List.append_nil] at hacc
    rw [← hacc]
    apply qe []
    repeat' (first|apply And.intro|(intro h;try exact cDd)|(refine Exists.intro (k) ⟨by omega,_,hky,?_⟩)|exact cSd|apply qc []|refine exr ?_|refine qi ?_)
  ·rw [List.drop_eq_nil_of_le (by omega),List.map_nil,vw,List.append_nil] at hacc
   rw [← hacc]
   apply qe []
   repeat' (first|apply And.intro|(intro h;try exact cDd)|exact cSd|apply qc []|refine exr ?_|refine qi ?_)
theorem q16 (L:List LnV) (i:Nat) (x:LnV) (n:Nat) (rec:Int) (st:List AObj) (hL:LnsB L) (hx:L[i]? = some x):qp E 109 [lnsA L,qgk L,Iv i,Iv n,Iv rec] st fun r st'=>r=Iv (xk (qhk L i) x.text x.ended ((L.drop (i+1)).map wb) n rec)∧st'=st:=by
 refine zl [.a (lnsA L),.a (qgk L),.i i,.i n,.i rec] (qs _) Tryz.func109 rfl rfl (fun _=>rfl) rfl fun S0=>?_
 have hLl:=hL.len
 have hil:=lt_of_getElem? hx
 have hgy:=qi3 hx
 have hky:=qks hx
 have hbe:=fun st=>qx8 L i st (by omega) (by omega)
 have hsa:=fun st=>qqr L i x st hL hx
 have hun:=fun st=>qjv (qhn L i x) st (hL.said hx)
 unfold qb4 at hun
 unfold xk
 have hsd:x.text::vw ((L.drop (i+1)).map wb)=qhn L i x:=rfl
 rw [hsd]
 generalize qhk L i=pv at *
 generalize qhn L i x=sl at *
 generalize (zp sl).2=u at *
 obtain⟨xn,xa,xt,xe⟩:=x
 dsimp only at *
 apply qe []
 repeat' (first|apply And.intro|(intro h;try exact cDd)|(refine Exists.intro (i) ⟨by omega,_,hky,?_⟩)|(refine Exists.intro (i) ⟨by omega,_,hgy,?_⟩)|exact⟨Tryz.call180⟩|refine cpe hbe ?_|exact⟨Tryz.call111⟩|refine cpe hsa ?_|exact⟨Tryz.call110⟩|refine cpe hun ?_|exact cSd|apply qc []|refine exr ?_|refine qi ?_)
 all_goals clear hbe hsa hun hgy hky
 all_goals (simp_all <;> omega)
end Go.Proofs.YtmoklbacdkmkaaaGreatDoor
namespace Go.Pl
open Go Go.Proofs Go.Proofs.YtmoklbacdkmkaaaGreatDoor
theorem qtx (l:Bytes):(zb l).1=1∨(zb l).1=2∨(zb l).1=3:=by
 unfold zb
 split
 ·split
  ·split
   ·unfold x3
    split <;> simp
   ·split
    ·unfold xc
     split
     ·simp
     ·split <;> simp
    ·simp
  ·simp
 ·split <;> simp
theorem qxa {l:Bytes} (h1:(zb l).1=1):∃ k:Nat,(zb l).2.2=(k:Int)∧0<k∧k≤l.length:=by
 obtain⟨_,m,hm,hn⟩:=qip (show zb l=(1,(zb l).2.1,(zb l).2.2) by rw [← h1])
 refine⟨_,hn,?_,?_⟩
 ·rw [qpo]
  simp [recL,wh,ze]
 ·have:=congrArg List.length hm
  rw [List.length_append] at this
  omega
theorem qh4 {l:Bytes}:(zb l).2.1.length≤l.length:=by
 have hp:=km 10 l
 unfold zb
 split
 ·split
  ·split
   ·simp
   ·split
    ·unfold xc
     split
     ·simp
     ·split
      ·simp;omega
      ·simp
    ·simp
  ·simp
 ·split <;> simp
theorem qn1 (l:Bytes):z0 l.length l≤l.length:=(qn2 _ _ _ (Nat.le_refl _) (Nat.le_refl _)).2
theorem qtz {f:Nat} {l:Bytes} {a:Int} {bs:List (List qu)} {es:List Int} (h:(zb l).1=2):recsF (f+1) l a bs es=(false,bs,es,l):=by
 rw [recsF,if_pos h]
theorem qxd {f:Nat} {l:Bytes} {a:Int} {bs:List (List qu)} {es:List Int} (h:(zb l).1=3):recsF (f+1) l a bs es=(true,bs,es,l):=by
 rw [recsF,if_neg (by rw [h];decide),if_neg (by rw [h];decide)]
theorem qxc {f:Nat} {l:Bytes} {a:Int} {bs:List (List qu)} {es:List Int} (h:(zb l).1=1) (hd:decF (zb l).2.1=none):recsF (f+1) l a bs es=(true,bs,es,l):=by
 rw [recsF,if_neg (by rw [h];decide),if_pos h,hd]
theorem qty {f k:Nat} {l:Bytes} {a:Int} {bs:List (List qu)} {es:List Int} {b:List qu} (h:(zb l).1=1) (hd:decF (zb l).2.1=some b) (hk:(zb l).2.2=(k:Int)):recsF (f+1) l a bs es=recsF f (l.drop k) (a+k) (bs++[b]) (es++[a+k]):=by
 rw [recsF,if_neg (by rw [h];decide),if_pos h,hd,hk]
 rfl
end Go.Pl
namespace Go.Proofs.YtmoklbacdkmkaaaGreatDoor
open Go Go.Av Go.RowKit Go.Proofs Go.Pl
@[reducible] def qby (es : List Int) : AV := .sl 1 (es.map fun x => Iv x) none
@[reducible] def qfb (bs : List (List qu)) : AV := .sl 1 (bs.map jg) none
@[reducible] def qcg (b : wa) : AV := .ag [Iv b.gen, Sv b.base, qfb b.batches, qby b.ends, Sv b.tail]
theorem q8o (l:Bytes) (b:Bool) (st:List AObj) (hl:l.length<4294967281) (h:begF l=b):qp E 101 [Sv l] st fun r st'=>r=Bv b∧st'=st:=by
 subst h
 exact zca l st hl
theorem zb9 (text:Bytes) (st:List AObj) (hl:text.length<1000000):qp E 57 [Sv text] st fun r st'=>r=Iv ((z0 text.length text:Nat):Int)∧st'=st:=by
 refine zl [.s text] (qs _) Tryz.func57 rfl rfl (fun _=>rfl) rfl fun S0=>?_
 apply qe []
 repeat' (first|apply And.intro|(intro h;try exact cDd)|exact⟨Tryz.call100⟩|(refine Exists.intro _ ⟨qiv _,?_⟩)|exact cSd|apply qc []|refine exr ?_|refine qi ?_)
 refine qei (X:=Int) text 1 2 [0,1] (fun r=>⟨[(0,.s text),(2,.bx 0 0),(5,.fn (.func 163) [] [.bx 1 0])],[(0,some (.cells 3 [.i r])),(1,some (.cells 9 [.s text]))],2⟩) _
  (fun k rest r=>r=0∧rest.length≤text.length∧z0 text.length text=z0 text.length rest) (fun c r=>c = .ret∧r=((z0 text.length text:Nat):Int)) 0 ⟨rfl,by omega,rfl⟩ ?_ id (by omega) (fun _=>rfl) rfl (fun _=>rfl) (fun _=>rfl) rfl ?_ ?_ ?_
 ·skip
  repeat' (first|apply And.intro|(intro h;try exact cDd)|exact cSd|apply qc []|refine exr ?_|refine qi ?_)
 ·rintro k rest r ⟨rfl,hrl,hbeg⟩ hne hle
  have hu:=ko 10 rest
  have hpl:=km 10 rest
  have hbg:=fun st=>q8o (upto 10 rest) _ st (by omega) rfl
  unfold qkt
  by_cases hb:begF (upto 10 rest)=true
  ·rw [hb] at hbg
   have hv:((text.length:Int) - rest.length)=((z0 text.length text:Nat):Int):=by
    rw [hbeg,qge hne hb]
    omega
   refine RA.mk fun S F ρ rd=>?_
   apply qe []
   repeat' (first|apply And.intro|(intro h;try exact cDd)|(refine RB.mk fun S rd=>?_;apply qe [])|exact⟨Tryz.call101⟩|refine cpe hbg ?_|(refine Exists.intro _ ⟨⟨rfl,hv⟩,?_⟩)|exact cSd|apply qc []|refine exr ?_|refine qi ?_)
  ·have hb':begF (upto 10 rest)=false:=by simpa using hb
   rw [hb'] at hbg
   refine RA.mk fun S F ρ rd=>?_
   apply qe []
   repeat' (first|apply And.intro|(intro h;try exact cDd)|(refine RB.mk fun S rd=>?_;apply qe [])|exact⟨Tryz.call101⟩|refine cpe hbg ?_|(refine Exists.intro 0 ⟨⟨rfl,by omega,by rw [hbeg,qhr hne (by rw [hb'];decide)]⟩,?_⟩)|exact cSd|apply qc []|refine exr ?_|refine qi ?_)
 ·rintro k r ⟨rfl,hrl,hbeg⟩
  rw [qc1] at hbeg
  rw [hbeg]
  repeat' (first|apply And.intro|(intro h;try exact cDd)|exact cSd|apply qc []|refine exr ?_|refine qi ?_)
 ·rintro c r ⟨rfl,rfl⟩
  repeat' (first|apply And.intro|(intro h;try exact cDd)|exact cSd|apply qc []|refine exr ?_|refine qi ?_)
theorem qag {a b c:AV} (h1:Pure a) (h2:Pure b) (h3:Pure c):Pure (.tu [a,b,c]):=qdi fun z hz=>by
 simp only [List.mem_cons,List.not_mem_nil,or_false] at hz
 rcases hz with rfl|rfl|rfl
 ·exact h1
 ·exact h2
 ·exact h3
def qb3 (text:Bytes):AV:=if 60000<text.length then .tu [js [],Iv (-9),Iv 1] else match (jz text).1 with
 |some e=>.tu [js [],Iv e.1,Iv e.2]
 |none=>.tu [js (jz text).2,Iv (-9),Iv 0]
theorem qvk (text:Bytes):Pure (qb3 text):=by
 unfold qb3
 split
 ·exact qag (qaj _) (qs _) (qs _)
 ·split
  ·exact qag (qaj _) (qs _) (qs _)
  ·exact qag (qaj _) (qs _) (qs _)
theorem q7i {L:List LnV} {k:Nat} {x:LnV} (h:L[k]? = some x):qhk L (k+1)=decide (qz x.text=4∨qz x.text=3):=by simp only [qhk,h]
set_option maxHeartbeats 2000000 in
theorem qju (text:Bytes) (st:List AObj) (hl:text.length<1000000):qp E 63 [Sv text] st fun r st'=>r=qb3 text∧st'=st:=by
 refine zl [.s text] (qvk text) Tryz.func63 rfl rfl (fun _=>rfl) rfl fun S0=>?_
 by_cases hbig:60000<text.length
 ·have e:qb3 text = .tu [js [],Iv (-9),Iv 1]:=if_pos hbig
  rw [e]
  apply qe []
  repeat' (first|apply And.intro|(intro h;try exact cDd)|exact cSd|apply qc []|refine exr ?_|refine qi ?_)
 have hRA:qb3 text=match (jz text).1 with
  |some e=>.tu [js [],Iv e.1,Iv e.2]
  |none=>.tu [js (jz text).2,Iv (-9),Iv 0]:=if_neg hbig
 rw [hRA]
 clear hRA
 obtain⟨L,hL⟩:∃ L,L=lns text:=⟨_,rfl⟩
 have hLl:L.length≤text.length:=by rw [hL];exact qcw _ text 0 0 (Nat.le_refl _)
 have hLB:LnsB L:=⟨by omega,fun x hx=>by have:=qti _ text 0 0 (Nat.le_refl _) x (by rw [hL] at hx;exact hx);omega⟩
 have hrun:refL 0 ((L.drop 0).map wb) (qhk L 0) ⟨2,[],[]⟩ 0 []=jz text:=by
  rw [List.drop_zero,hL,qoo]
  exact qlf text
 have hml:(L.map lnA).length=L.length:=by simp
 have hspl:∀ st,qp E 61 [Sv text] st fun r st'=>r=lnsA L∧st'=st:=fun st=>by rw [hL];exact qir text st (by omega)
 clear hL
 generalize jz text=PF at hrun
 apply qe []
 repeat' (first|apply And.intro|(intro h;try exact cDd)|exact⟨Tryz.call61⟩|refine cpe hspl ?_|exact cSd|apply qc []|refine exr ?_|refine qi ?_)
 refine jf (X:=Nat) (fun k=>⟨[(5,.a (lnsA L)),(6,.tp 0),(7,.i k)],[(0,some (.tip 1 3 ((L.take k).map fun x=>Iv (qz x.text))))],1⟩) (fun k=>k≤L.length) (fun k=>L.length - k) 0 (by omega) ?_ ?_
 ·skip
  repeat' (first|apply And.intro|(intro h;try exact cDd)|exact cSd|apply qc []|refine exr ?_|refine qi ?_)
 ·intro k hk
  by_cases hkl:k<L.length
  ·obtain⟨x,hx⟩:∃ x,L[k]? = some x:=⟨_,List.getElem?_eq_getElem hkl⟩
   have hgx:=qi3 hx
   have hxl:=hLB.val x (List.mem_of_getElem? hx)
   have hkd:=fun st=>qfz x.text st (by omega)
   apply qe []
   repeat' (first|apply And.intro|(intro h;try exact cDd)|(refine Exists.intro _ ⟨rfl,_,hgx,?_⟩)|exact⟨Tryz.call108⟩|refine cpe hkd ?_|(refine Exists.intro (k+1) ⟨by omega,by omega,?_⟩)|exact cSd|apply qc []|refine exr ?_|refine qi ?_)
   rw [List.take_add_one,hx]
   simp
  ·have e:L.take k=L:=List.take_of_length_le (by omega)
   apply qe []
   repeat' (first|apply And.intro|(intro h;try exact cDd)|exact cSd|apply qc []|refine exr ?_|refine qi ?_)
   refine jf (X:=Nat×zv×Int×List zv) (fun (k,⟨nk,nr,nf⟩,rec,out)=>⟨[(5,.a (lnsA L)),(6,.a (qgk L)),(8,.tp 0),(9,.bx 1 0),(10,.i rec),(11,.i k)],
     [(0,some (.tip 3 137 (out.map z6))),(1,some (.cells 137 [.i nk,.s nr,.tp 2])),(2,some (.tip 2 156 (nf.map fldA)))],3⟩)
    (fun (k,now,rec,out)=>k≤L.length∧refL k ((L.drop k).map wb) (qhk L k) now rec out=PF∧0≤rec∧rec≤k∧out.length≤2 * k∧now.fields.length≤k∧now.raw.length≤200000 * k) (fun x=>L.length - x.1) (0,⟨2,[],[]⟩,0,[])
    ⟨by omega,hrun,by omega,by omega,by simp,by simp,by simp⟩ ?_ ?_
   ·skip
    repeat' (first|apply And.intro|(intro h;try exact cDd)|(refine qi ?_;rw [e])|exact cSd|apply qc []|refine exr ?_|refine qi ?_)
   ·rintro⟨j,⟨nk,nr,nf⟩,rec,out⟩ ⟨hj,hR,hr0,hr1,hol,hfl,hrl⟩
    simp only at hfl hrl
    by_cases hjl:j<L.length
    ·obtain⟨x,hx⟩:∃ x,L[j]? = some x:=⟨_,List.getElem?_eq_getElem hjl⟩
     have hgx:=qi3 hx
     have hkx:=qks hx
     have hxl:=hLB.val x (List.mem_of_getElem? hx)
     have hwr:∀ st,qp E 109 [lnsA L,qgk L,Iv j,Iv ((nf.map fldA).length:Nat),Iv rec] st fun r st'=>r=Iv (xk (qhk L j) x.text x.ended ((L.drop (j+1)).map wb) nf.length rec)∧st'=st:=fun st=>by rw [List.length_map];exact q16 L j x nf.length rec st hLB hx
     have hsa:=fun st=>qqr L j x st hLB hx
     have hun:=fun st=>qjv (qhn L j x) st (hLB.said hx)
     unfold qb4 at hun
     have hpv:=q7i hx
     have hsd:x.text::vw ((L.drop (j+1)).map wb)=qhn L j x:=rfl
     rw [qwn hx,refL,hsd] at hR
     simp only at hR
     by_cases h1:qz x.text=1
     ·apply qe []
      repeat' (first|apply And.intro|(intro h;try exact cDd)|(refine Exists.intro _ ⟨rfl,_,hgx,?_⟩)|(refine Exists.intro _ ⟨rfl,_,hkx,?_⟩)|exact⟨Tryz.call109⟩|refine cpe hwr ?_|exact⟨Tryz.call111⟩|refine cpe hsa ?_|exact⟨Tryz.call110⟩|refine cpe hun ?_|(rw [if_pos (by assumption)] at hR;rw [← hR];exact qpr _)|(refine Exists.intro (j+1,⟨2,[],[]⟩,rec,outR ⟨nk,nr,nf⟩ out++[⟨1,x.text++[10],[]⟩]) ⟨?_,by simp only;omega,?_⟩)|exact cSd|apply qc []|refine exr ?_|refine qi ?_)
      all_goals first|grind [outR]|(simp [outR,z6, *] at hR ⊢;done)|(simp [outR,z6, *] at hR ⊢;omega)
     ·by_cases h4:qz x.text=4
      ·apply qe []
       repeat' (first|apply And.intro|(intro h;try exact cDd)|(refine Exists.intro _ ⟨rfl,_,hgx,?_⟩)|(refine Exists.intro _ ⟨rfl,_,hkx,?_⟩)|exact⟨Tryz.call109⟩|refine cpe hwr ?_|exact⟨Tryz.call111⟩|refine cpe hsa ?_|exact⟨Tryz.call110⟩|refine cpe hun ?_|(rw [if_pos (by assumption)] at hR;rw [← hR];exact qpr _)|(refine Exists.intro (j+1,⟨3,nr++x.text++[10],nf++[(zp (qhn L j x)).1]⟩,if nk=2 then rec+1 else rec,out) ⟨?_,by simp only;omega,?_⟩)|exact cSd|apply qc []|refine exr ?_|refine qi ?_)
       all_goals first|grind [outR]|(simp [outR,z6, *] at hR ⊢;done)|(simp [outR,z6, *] at hR ⊢;omega)
      ·apply qe []
       repeat' (first|apply And.intro|(intro h;try exact cDd)|(refine Exists.intro _ ⟨rfl,_,hgx,?_⟩)|(refine Exists.intro _ ⟨rfl,_,hkx,?_⟩)|exact⟨Tryz.call109⟩|refine cpe hwr ?_|exact⟨Tryz.call111⟩|refine cpe hsa ?_|exact⟨Tryz.call110⟩|refine cpe hun ?_|(rw [if_pos (by assumption)] at hR;rw [← hR];exact qpr _)|(refine Exists.intro (j+1,⟨nk,nr++x.text++[10],nf⟩,rec,out) ⟨?_,by simp only;omega,?_⟩)|exact cSd|apply qc []|refine exr ?_|refine qi ?_)
       all_goals first|grind [outR]|(simp [outR,z6, *] at hR ⊢;done)|(simp [outR,z6, *] at hR ⊢;omega)
    ·have e:(L.drop j).map wb=[]:=by rw [List.drop_eq_nil_of_le (by omega)];rfl
     rw [e,refL] at hR
     rw [← hR]
     apply qe []
     repeat' (first|apply And.intro|(intro h;try exact cDd)|exact cSd|apply qc []|refine exr ?_|refine qi ?_)
     all_goals first|grind [outR]|(simp [outR,z6, *] at hR ⊢;done)|(simp [outR,z6, *] at hR ⊢;omega)
theorem qz2 (b:List qu):ql5 (jg b):=fun y hy=>by
 simp only [AV.cells,List.mem_cons,List.not_mem_nil,or_false] at hy
 subst hy
 exact qet _
theorem qx1 (bs:List (List qu)):Pure (qfb bs):=qco fun x hx=>by
 obtain⟨b,_,rfl⟩:=List.mem_map.1 hx
 exact qz2 b
theorem qc5 (es:List Int):Pure (qby es):=qco fun x hx=>by
 obtain⟨b,_,rfl⟩:=List.mem_map.1 hx
 intro y hy
 simp only [AV.cells,List.mem_cons,List.not_mem_nil,or_false] at hy
 subst hy
 exact qs _
theorem qgf (b:wa):Pure (qcg b):=qlx fun x hx=>by
 simp only [List.mem_cons,List.not_mem_nil,or_false] at hx
 rcases hx with rfl|rfl|rfl|rfl|rfl
 ·exact qs _
 ·exact qs _
 ·exact qx1 _
 ·exact qc5 _
 ·exact qs _
def qn4 (x:ErrV×wa):AV:=.tu [qcg x.2,errA x.1]
theorem q23 (x:ErrV×wa):Pure (qn4 x):=kj (qgf _) (vl _)
theorem q36 (text:Bytes) (st:List AObj) (hl:60000<text.length) (h2:text.length<1000000):qp E 58 [Sv text] st fun r st'=>r = .tu [js [],errA (.num 1)]∧st'=st:=by
 refine zl [.s text] (kj (qaj _) (vl _)) Tryz.func58 rfl rfl (fun _=>rfl) rfl fun S0=>?_
 apply qe []
 repeat' (first|apply And.intro|(intro h;try exact cDd)|exact cSd|apply qc []|refine exr ?_|refine qi ?_)
def itsE (text:Bytes):List zv:=if 60000<text.length then [] else (jz text).2
theorem qo5 (text:Bytes) (st:List AObj) (hl:text.length<1000000):qp E 58 [Sv text] st fun r st'=>r = .tu [js (itsE text),errA (jt text)]∧st'=st:=by
 unfold jt itsE
 by_cases hb:60000<text.length
 ·rw [if_pos hb,if_pos hb]
  exact q36 text st hb hl
 ·rw [if_neg hb,if_neg hb]
  have:=qrq text st (by omega)
  unfold qd0 at this
  rcases hp:(jz text).1 with _ | ⟨x,y⟩
  ·rw [hp] at this
   exact this
  ·rw [hp] at this
   exact this
theorem qzp (gen:Int) (base text:Bytes) (a:Nat) (hl:text.length<1000000) (ha:a≤text.length) (r:SV) (hp1:List (Nat×Option SR)) (nx1:Nat) (R:Bool×List (List qu)×List Int×Bytes) (hR:Go.Pl.recsF (text.length+1) (text.drop a) a [] []=R)
  (hok:R.1=false→r = .a (.v .nilIface)∧hp1=[(0,some (.cells 26 [.i gen,.s base,.tp 1,.tp 2,.s R.2.2.2])),(1,some (.tip 1 55 (R.2.1.map jg))),(2,some (.tip 1 3 (R.2.2.1.map fun x=>Iv x)))]∧nx1=3)
  (hbad:R.1=true→r = .a (errA (.at' R.2.1.length 10))∧hp1=[]∧nx1=1):vn E 59 [.bx 0 0,.s text,.i a] 1 (hpF [(0,some (.cells 26 [.i gen,.s base,.a zm,.a zm,.s []]))]) ⟨r,wi [(0,some (.cells 26 [.i gen,.s base,.a zm,.a zm,.s []]))],hp1++ww [(0,some (.cells 26 [.i gen,.s base,.a zm,.a zm,.s []]))],nx1⟩:=by
 refine yx [.bx 0 0,.s text,.i a] [(0,some (.cells 26 [.i gen,.s base,.a zm,.a zm,.s []]))] 1 r hp1 nx1 Tryz.func59 rfl rfl rfl ?_ fun S F ρ=>?_
 ·cases h:R.1 with
  |false=>obtain⟨rfl,rfl,rfl⟩:=hok h;rfl
  |true=>obtain⟨rfl,rfl,rfl⟩:=hbad h;rfl
 apply qe []
 repeat' (first|apply And.intro|(intro h;try exact cDd)|exact cSd|apply qc []|refine exr ?_|refine qi ?_)
 refine jf (X:=Nat×Nat×List (List qu)×List Int) (fun (k,f,bs,es)=>⟨[(0,.bx 0 0),(1,.s text),(2,.i k)],[(0,some (.cells 26 [.i gen,.s base,.tp 1,.tp 2,.s []])),(1,some (.tip 1 55 (bs.map jg))),(2,some (.tip 1 3 (es.map fun x=>Iv x)))],3⟩)
  (fun (k,f,bs,es)=>k≤text.length∧text.length - k<f∧Go.Pl.recsF f (text.drop k) k bs es=R∧bs.length≤k∧es.length≤k) (fun x=>text.length - x.1) (a,text.length+1,[],[]) ⟨ha,by omega,hR,by simp,by simp⟩ ?_ ?_
 ·skip
  repeat' (first|apply And.intro|(intro h;try exact cDd)|exact cSd|apply qc []|refine exr ?_|refine qi ?_)
 ·rintro⟨k,f,bs,es⟩ ⟨hk,hf,hR,hbl,hel⟩
  obtain⟨f,rfl⟩:∃ f',f=f'+1:=⟨f - 1,by omega⟩
  have hrd:=fun st=>zak (text.drop k) st (by simp;omega)
  have hll:(text.drop k).length=text.length - k:=by simp
  have hbd:=qh4 (l:=text.drop k)
  have hde:=fun st=>qzz (zb (text.drop k)).2.1 st (by omega)
  rcases qtx (text.drop k) with h1|h2|h3
  ·rw [h1] at hrd
   obtain⟨n',hn',hn0',hnl⟩:=qxa h1
   cases hdd:decF (zb (text.drop k)).2.1 with
   |none=>
    rw [qxc h1 hdd] at hR
    rw [hdd] at hde
    subst hR
    obtain⟨rfl,rfl,rfl⟩:=hbad rfl
    apply qe []
    repeat' (first|apply And.intro|(intro h;try exact cDd)|exact⟨Tryz.call104⟩|refine cpe hrd ?_|exact⟨Tryz.call105⟩|refine cpe hde ?_|exact cSd|apply qc []|refine exr ?_|refine qi ?_)
    rw [List.length_map]
    rfl
   |some b=>
    rw [qty h1 hdd hn'] at hR
    rw [hdd] at hde
    rw [hn'] at hrd
    apply qe []
    repeat' (first|apply And.intro|(intro h;try exact cDd)|exact⟨Tryz.call104⟩|refine cpe hrd ?_|exact⟨Tryz.call105⟩|refine cpe hde ?_|(refine Exists.intro (k+n',f,bs++[b],es++[((k+n':Nat):Int)]) ⟨?_,by simp only;omega,?_⟩)|exact cSd|apply qc []|refine exr ?_|refine qi ?_)
    all_goals first|(rw [← hR,Int.natCast_add,List.drop_drop];done)|(simp;done)
  ·rw [h2] at hrd
   rw [qtz h2] at hR
   subst hR
   obtain⟨rfl,rfl,rfl⟩:=hok rfl
   cases hdd:decF (zb (text.drop k)).2.1 <;> rw [hdd] at hde
   all_goals
    apply qe []
    repeat' (first|apply And.intro|(intro h;try exact cDd)|exact⟨Tryz.call104⟩|refine cpe hrd ?_|exact⟨Tryz.call105⟩|refine cpe hde ?_|exact cSd|apply qc []|refine exr ?_|refine qi ?_)
  ·rw [h3] at hrd
   rw [qxd h3] at hR
   subst hR
   obtain⟨rfl,rfl,rfl⟩:=hbad rfl
   cases hdd:decF (zb (text.drop k)).2.1 <;> rw [hdd] at hde
   all_goals
    apply qe []
    repeat' (first|apply And.intro|(intro h;try exact cDd)|exact⟨Tryz.call104⟩|refine cpe hrd ?_|exact⟨Tryz.call105⟩|refine cpe hde ?_|exact cSd|apply qc []|refine exr ?_|refine qi ?_)
   all_goals
    rw [List.length_map]
    rfl
theorem q4m (text:Bytes) (st:List AObj) (hl:text.length<1000000):qp E 19 [Sv text] st fun r st'=>r=qn4 (jv text)∧st'=st:=by
 refine zl [.s text] (q23 _) Tryz.func19 rfl rfl (fun _=>rfl) rfl fun S0=>?_
 by_cases hbig:120000<text.length
 ·have e:jv text=(.num 1,qai):=if_pos hbig
  rw [e]
  apply qe []
  repeat' (first|apply And.intro|(intro h;try exact cDd)|exact cSd|apply qc []|refine exr ?_|refine qi ?_)
 have hsp:=qdj text
 have hrl:(vh text).2.length≤text.length:=by
  conv=>rhs;rw [hsp.1]
  simp
 have hbl:=qn1 (vh text).2
 obtain⟨g,rest,htk⟩:∃ g rest,vh text=(g,rest):=⟨_,_,rfl⟩
 have hF:jv text=match jt (rest.take (z0 rest.length rest)) with
   | .no=>if (Go.Pl.recsF (text.length+1) (rest.drop (z0 rest.length rest)) (((text.length - rest.length+z0 rest.length rest:Nat)):Int) [] []).1=true then (.at' (Go.Pl.recsF (text.length+1) (rest.drop (z0 rest.length rest)) (((text.length - rest.length+z0 rest.length rest:Nat)):Int) [] []).2.1.length 10,qai)
    else (.no,⟨g,rest.take (z0 rest.length rest),(Go.Pl.recsF (text.length+1) (rest.drop (z0 rest.length rest)) (((text.length - rest.length+z0 rest.length rest:Nat)):Int) [] []).2.1,(Go.Pl.recsF (text.length+1) (rest.drop (z0 rest.length rest)) (((text.length - rest.length+z0 rest.length rest:Nat)):Int) [] []).2.2.1,(Go.Pl.recsF (text.length+1) (rest.drop (z0 rest.length rest)) (((text.length - rest.length+z0 rest.length rest:Nat)):Int) [] []).2.2.2⟩)
   |e=>(e,qai):=by
  unfold jv
  rw [if_neg hbig]
  unfold qeg y4 atH xb
  rw [htk]
  try rfl
 have htk2:∀ st,qp E 56 [Sv text] st fun r st'=>r = .tu [Iv g,Sv rest]∧st'=st:=fun st=>by
  have:=q4z text st hl
  rw [htk] at this
  exact this
 rw [htk] at hrl hbl hsp
 simp only at hrl hbl hsp
 have hdr:rest.drop (z0 rest.length rest)=text.drop (text.length - rest.length+z0 rest.length rest):=by
  have h1:text.length=(wm g).length+rest.length:=by
   have:=congrArg List.length hsp.1
   simpa using this
  conv=>rhs;rhs;rw [hsp.1]
  rw [← List.drop_drop,show text.length - rest.length=(wm g).length by omega,List.drop_left]
 rw [hdr] at hF
 clear hdr hsp htk
 have hbg:=fun st=>zb9 rest st (by omega)
 generalize z0 rest.length rest=a at hF hbl hbg
 have hpa:=fun st=>qo5 (rest.take a) st (by simp;omega)
 have hsub:((text.length:Int) - (rest.length:Int))+(a:Int)=((text.length - rest.length+a:Nat):Int):=by omega
 rw [show (((text.length - rest.length+a:Nat)):Int)=(((text.length - rest.length+a:Nat)):Int) from rfl] at hF
 obtain⟨R,hR⟩:∃ R,Go.Pl.recsF (text.length+1) (text.drop (text.length - rest.length+a)) ((text.length - rest.length+a:Nat):Int) [] []=R:=⟨_,rfl⟩
 rw [hR] at hF
 have hok:=fun h=>qzp g (rest.take a) text (text.length - rest.length+a) hl (by omega) (.a (.v .nilIface)) [(0,some (.cells 26 [.i g,.s (rest.take a),.tp 1,.tp 2,.s R.2.2.2])),(1,some (.tip 1 55 (R.2.1.map jg))),(2,some (.tip 1 3 (R.2.2.1.map fun x=>Iv x)))] 3 R hR (fun _=>⟨rfl,rfl,rfl⟩) h
 have hbad:=fun h=>qzp g (rest.take a) text (text.length - rest.length+a) hl (by omega) (.a (errA (.at' R.2.1.length 10))) [] 1 R hR h (fun _=>⟨rfl,rfl,rfl⟩)
 generalize itsE (rest.take a)=its at hpa
 cases hpe:jt (rest.take a) with
 |no=>
  rw [hpe] at hF hpa
  simp only at hF
  by_cases hR1:R.1=true
  ·rw [if_pos hR1] at hF
   rw [hF]
   apply qe []
   repeat' (first|apply And.intro|(intro h;try exact cDd)|exact⟨Tryz.call56⟩|refine cpe htk2 ?_|exact⟨Tryz.call57⟩|refine cpe hbg ?_|exact⟨Tryz.call58⟩|refine cpe hpa ?_|exact⟨Tryz.call59⟩|(refine j8 (hbad fun h=>by rw [hR1] at h;simp at h) ?_)|exact cSd|apply qc []|refine exr ?_|refine qi ?_)
   all_goals exact congrArg Iv hsub
  ·rw [if_neg hR1] at hF
   rw [hF]
   apply qe []
   repeat' (first|apply And.intro|(intro h;try exact cDd)|exact⟨Tryz.call56⟩|refine cpe htk2 ?_|exact⟨Tryz.call57⟩|refine cpe hbg ?_|exact⟨Tryz.call58⟩|refine cpe hpa ?_|exact⟨Tryz.call59⟩|(refine j8 (hok fun h=>absurd h hR1) ?_)|exact cSd|apply qc []|refine exr ?_|refine qi ?_)
   all_goals exact congrArg Iv hsub
 |num n=>
  rw [hpe] at hF hpa
  have hF2:jv text=(.num n,qai):=hF
  rw [hF2]
  apply qe []
  repeat' (first|apply And.intro|(intro h;try exact cDd)|exact⟨Tryz.call56⟩|refine cpe htk2 ?_|exact⟨Tryz.call57⟩|refine cpe hbg ?_|exact⟨Tryz.call58⟩|refine cpe hpa ?_|exact cSd|apply qc []|refine exr ?_|refine qi ?_)
 |at' p n=>
  rw [hpe] at hF hpa
  have hF2:jv text=(.at' p n,qai):=hF
  rw [hF2]
  apply qe []
  repeat' (first|apply And.intro|(intro h;try exact cDd)|exact⟨Tryz.call56⟩|refine cpe htk2 ?_|exact⟨Tryz.call57⟩|refine cpe hbg ?_|exact⟨Tryz.call58⟩|refine cpe hpa ?_|exact cSd|apply qc []|refine exr ?_|refine qi ?_)
theorem zcz (n:Int):(wm n).length≤100:=by
 unfold wm
 split
 ·rename_i h
  have:=qw0 h
  omega
 ·simp
theorem zcd (b:wa) (st:List AObj) (hb:b.base.length<1000000) (he:b.ends.length<1000000):qp E 29 [qcg b] st fun r st'=>r=Iv (qb9 b)∧st'=st:=by
 have hh:=zcz b.gen
 have hle:=fun st=>q9r b.gen st
 refine zl [.a (qcg b)] (qs _) Tryz.func29 rfl rfl (fun _=>rfl) rfl fun S0=>?_
 by_cases h0:b.ends=[]
 ·have e:qb9 b=((wm b.gen).length:Int)+(b.base.length:Int):=by simp [qb9,h0]
  rw [e]
  have hl0:(b.ends.map fun x=>Iv x).length=0:=by simp [h0]
  apply qe []
  repeat' (first|apply And.intro|(intro h;try exact cDd)|exact⟨Tryz.call77⟩|refine cpe hle ?_|exact cSd|apply qc []|refine exr ?_|refine qi ?_)
 ·obtain⟨x,hx⟩:∃ x,b.ends.getLast? = some x:=by
   cases h:b.ends.getLast? with
   |none=>exact absurd (List.getLast?_eq_none_iff.1 h) h0
   |some x=>exact⟨x,rfl⟩
  have e:qb9 b=x:=by simp [qb9,hx]
  rw [e]
  have hl0:0<b.ends.length:=List.length_pos_iff.2 h0
  have hml:(b.ends.map fun x=>Iv x).length=b.ends.length:=by simp
  have hg:(b.ends.map fun x=>Iv x)[b.ends.length - 1]? = some (Iv x):=by
   rw [List.getLast?_eq_getElem?] at hx
   simp [hx]
  apply qe []
  repeat' (first|apply And.intro|(intro h;try exact cDd)|exact⟨Tryz.call77⟩|refine cpe hle ?_|(refine Exists.intro (b.ends.length - 1) ⟨by omega,_,hg,?_⟩)|exact cSd|apply qc []|refine exr ?_|refine qi ?_)
theorem qxe:∀ r:List (List qu),r.length≤(wc r).length
 | []=>by simp [wc]
 |b::r=>by
  have:=qxe r
  have h1:=q1q b
  rw [qb2]
  simp
  omega
structure zii (text:Bytes) (b:wa):Prop where
 base:b.base.length<1000000
 tail:b.tail.length<1000000
 ends : b.ends.length < 1000000
 whole:qb9 b=((y9 b).length:Int)
 wlen:(y9 b).length≤text.length
 size:qb9 b+b.tail.length=text.length
theorem q24 {text:Bytes} {b:wa} (h:qbc text b):zii text b:=by
 have h1:=congrArg List.length h.split
 have h2:=h.len
 have h3:=qxe b.batches
 have h4:=h.whole
 simp only [List.length_append,y9] at h1
 refine⟨by omega,by omega,by rw [h.ends,qn9];omega,h4,by simp only [y9,List.length_append];omega,?_⟩
 rw [h4]
 simp only [y9,List.length_append]
 omega
theorem q8l (text:Bytes) (x:List qu) (st:List AObj) (hl:text.length<1000000) (hB:∀ y∈x,EdB y) (hx:x.length<1000000):qp E 28 [Sv text,jg x] st fun r st'=>r = .tu [Sv (Go.Pl.appF text x).2,errA (Go.Pl.appF text x).1]∧st'=st:=by
 refine zl [.s text,.a (jg x)] (kj (qs _) (vl _)) Tryz.func28 rfl rfl (fun _=>rfl) rfl fun S0=>?_
 have hbr:=fun st=>q4m text st hl
 unfold Go.Pl.appF
 have hbk:jv text=((jv text).1,(jv text).2):=rfl
 cases hbe:(jv text).1 with
 |no=>
  rw [hbe] at hbk
  have hT:=qjc hbk
  have hS:=q24 hT
  obtain⟨hs1,hs2,hs3,hs4,hs5,hs6⟩:=hS
  rw [hbk] at hbr
  generalize (jv text).2=b at hbr hT hs1 hs2 hs3 hs4 hs5 hs6
  unfold qn4 at hbr
  have hwh:=fun st=>zcd b st hs1 hs3
  rw [hs4] at hwh
  simp only [hs4,Int.toNat_natCast]
  have htl:=hT.len
  cases hee:eErr x with
  |no=>
   have hen:=fun st=>qwq x st hB hee
   by_cases h5:50000<(encF x).length
   ·simp only [if_pos h5]
    apply qe []
    repeat' (first|apply And.intro|(intro h;try exact cDd)|exact⟨Tryz.call19⟩|refine cpe hbr ?_|exact⟨Tryz.call75⟩|refine cpe hen ?_|exact cSd|apply qc []|refine exr ?_|refine qi ?_)
   ·simp only [if_neg h5]
    have hgx:qf9 x:=⟨hee,hB,by omega⟩
    have hrc:=fun st=>zal (encF x) st (by omega) hgx.good
    have hrl:=q7j hgx.good
    have hre:recF (encF x)=recE x:=rfl
    rw [hre] at hrc hrl
    by_cases h12:(120000:Int)<((y9 b).length:Int)+((recE x).length:Int)
    ·rw [if_pos h12]
     apply qe []
     repeat' (first|apply And.intro|(intro h;try exact cDd)|exact⟨Tryz.call19⟩|refine cpe hbr ?_|exact⟨Tryz.call75⟩|refine cpe hen ?_|exact⟨Tryz.call76⟩|refine cpe hrc ?_|exact⟨Tryz.call29⟩|refine cpe hwh ?_|exact cSd|apply qc []|refine exr ?_|refine qi ?_)
    ·rw [if_neg h12]
     apply qe []
     repeat' (first|apply And.intro|(intro h;try exact cDd)|exact⟨Tryz.call19⟩|refine cpe hbr ?_|exact⟨Tryz.call75⟩|refine cpe hen ?_|exact⟨Tryz.call76⟩|refine cpe hrc ?_|exact⟨Tryz.call29⟩|refine cpe hwh ?_|exact cSd|apply qc []|refine exr ?_|refine qi ?_)
  |num n=>
   have hen:=fun st=>qki x st _ hB (by omega) hee (fun h=>by have:=(qdq x).1 (by rw [hee];exact h);rw [hee] at this;simp at this)
   apply qe []
   repeat' (first|apply And.intro|(intro h;try exact cDd)|exact⟨Tryz.call19⟩|refine cpe hbr ?_|exact⟨Tryz.call75⟩|refine cpe hen ?_|exact cSd|apply qc []|refine exr ?_|refine qi ?_)
  |at' p n=>
   have hen:=fun st=>qki x st _ hB (by omega) hee (fun h=>by have:=(qdq x).1 (by rw [hee];exact h);rw [hee] at this;simp at this)
   apply qe []
   repeat' (first|apply And.intro|(intro h;try exact cDd)|exact⟨Tryz.call19⟩|refine cpe hbr ?_|exact⟨Tryz.call75⟩|refine cpe hen ?_|exact cSd|apply qc []|refine exr ?_|refine qi ?_)
 |num n=>
  rw [hbe] at hbk
  rw [hbk] at hbr
  unfold qn4 at hbr
  apply qe []
  repeat' (first|apply And.intro|(intro h;try exact cDd)|exact⟨Tryz.call19⟩|refine cpe hbr ?_|exact cSd|apply qc []|refine exr ?_|refine qi ?_)
 |at' p n=>
  rw [hbe] at hbk
  rw [hbk] at hbr
  unfold qn4 at hbr
  apply qe []
  repeat' (first|apply And.intro|(intro h;try exact cDd)|exact⟨Tryz.call19⟩|refine cpe hbr ?_|exact cSd|apply qc []|refine exr ?_|refine qi ?_)
def cutL:List LnV→Int→Int
 | [],d=>d
 |x::r,d=>if begF x.text=true then (x.at':Int) else cutL r d
theorem q4q:∀ (n:Nat) (l:Bytes) (k a N:Nat),l.length≤n→(l=[]∨a+l.length=N)→cutL (vi k a l) N=((z0 N l:Nat):Int)
 |n,l,k,a,N,hn,ha=>by
  by_cases h:l=[]
  ·subst h
   rw [qar,qc1]
   try rfl
  ·have hlt:=wy (c:=10) h
   have hle:a+l.length=N:=ha.resolve_left h
   cases n with
   |zero=>omega
   |succ n=>
    rw [qat h,cutL]
    by_cases hb:begF (upto 10 l)=true
    ·rw [if_pos hb,qge h hb]
     simp only
     omega
    ·rw [if_neg hb,qhr h hb]
     refine q4q n (past 10 l) (k+1) _ N (by omega) ?_
     by_cases h10:10∈l
     ·right
      have e:=congrArg List.length (wg h10)
      simp only [List.length_append,List.length_cons,List.length_nil] at e
      omega
     ·left
      unfold past
      rw [w7 h10]
      exact List.drop_eq_nil_of_le (by omega)
theorem q15 (text:Bytes):∃ its,qb3 text = .tu [js its,Iv (jt text).pos,Iv (jt text).code]:=by
 unfold qb3 jt
 split
 ·exact⟨[],rfl⟩
 ·rcases (jz text).1 with _ | ⟨a,n⟩
  ·exact⟨_,rfl⟩
  ·exact⟨[],rfl⟩
def qce (x:ErrV×wa):AV:=.tu [qcg x.2,Iv x.1.pos,Iv x.1.code]
theorem qya (x:ErrV×wa):Pure (qce x):=qag (qgf _) (qs _) (qs _)
theorem qm6:∀ (r:List (Bytes×Bool)) (i:Nat) (prev:Bool) (now:zv) (rec:Int) (out:List zv) (e:Int×Int),(refL i r prev now rec out).1=some e→e.2≠0
 | [],i,prev,now,rec,out,e,h=>by simp [refL] at h
 |(t,b)::r,i,prev,now,rec,out,e,h=>by
  rw [refL] at h
  split at h
  ·rename_i hw
   simp only [Option.some.injEq] at h
   subst h
   exact hw
  ·split at h
   ·exact qm6 r _ _ _ _ _ e h
   ·split at h
    ·exact qm6 r _ _ _ _ _ e h
    ·exact qm6 r _ _ _ _ _ e h
theorem qmz {text:Bytes} {n:Int} (h:jt text = .num n):n=1:=by
 unfold jt at h
 split at h
 ·simpa using h.symm
 ·split at h <;> simp at h
theorem qox {text:Bytes} {a n:Int} (h:jt text = .at' a n):n≠0:=by
 unfold jt at h
 split at h
 ·simp at h
 ·split at h
  ·simp at h
  ·rename_i a' n' hp
   simp only [ErrV.at'.injEq] at h
   rw [← h.2]
   have:=qlf text
   exact qm6 _ _ _ _ _ _ (a',n') (by rw [this];exact hp)
theorem qo1 (text:Bytes) (hl:text.length<1000000):∃ its p n,(∀ st,qp E 63 [Sv text] st fun r st'=>r = .tu [js its,Iv p,Iv n]∧st'=st)∧p=(jt text).pos∧n=(jt text).code∧(n=0↔jt text = .no):=by
 obtain⟨its,hits⟩:=q15 text
 refine⟨its,_,_,fun st=>by rw [← hits];exact qju text st hl,rfl,rfl,?_⟩
 cases hpe:jt text with
 |no=>simp [ErrV.code]
 |num n=>have:=qmz hpe;simp [ErrV.code];omega
 |at' a n=>have:=qox hpe;simp [ErrV.code];omega
theorem q1z (x:Option (List qu)):∃ b o,qcp x = .tu [jg b,Bv o]:=by
 cases x with
 |none=>exact⟨[],false,rfl⟩
 |some b=>exact⟨b,true,rfl⟩
set_option maxHeartbeats 1000000 in
theorem q3y (text:Bytes) (st:List AObj) (hl:text.length<1000000):qp E 20 [Sv text] st fun r st'=>r=qce (jv text)∧st'=st:=by
 refine zl [.s text] (qya _) Tryz.func20 rfl rfl (fun _=>rfl) rfl fun S0=>?_
 by_cases hbig:120000<text.length
 ·have e:jv text=(.num 1,qai):=if_pos hbig
  rw [e]
  apply qe []
  repeat' (first|apply And.intro|(intro h;try exact cDd)|exact cSd|apply qc []|refine exr ?_|refine qi ?_)
 have hsp:=qdj text
 have hrl:(vh text).2.length≤text.length:=by
  conv=>rhs;rw [hsp.1]
  simp
 have hbl:=qn1 (vh text).2
 obtain⟨g,rest,htk⟩:∃ g rest,vh text=(g,rest):=⟨_,_,rfl⟩
 have hF:jv text=match jt (rest.take (z0 rest.length rest)) with
   | .no=>if (Go.Pl.recsF (text.length+1) (rest.drop (z0 rest.length rest)) (((text.length - rest.length+z0 rest.length rest:Nat)):Int) [] []).1=true then (.at' (Go.Pl.recsF (text.length+1) (rest.drop (z0 rest.length rest)) (((text.length - rest.length+z0 rest.length rest:Nat)):Int) [] []).2.1.length 10,qai)
    else (.no,⟨g,rest.take (z0 rest.length rest),(Go.Pl.recsF (text.length+1) (rest.drop (z0 rest.length rest)) (((text.length - rest.length+z0 rest.length rest:Nat)):Int) [] []).2.1,(Go.Pl.recsF (text.length+1) (rest.drop (z0 rest.length rest)) (((text.length - rest.length+z0 rest.length rest:Nat)):Int) [] []).2.2.1,(Go.Pl.recsF (text.length+1) (rest.drop (z0 rest.length rest)) (((text.length - rest.length+z0 rest.length rest:Nat)):Int) [] []).2.2.2⟩)
   |e=>(e,qai):=by
  unfold jv
  rw [if_neg hbig]
  unfold qeg y4 atH xb
  rw [htk]
  try rfl
 have htk2:∀ st,qp E 60 [Sv text] st fun r st'=>r = .tu [Iv g,Sv rest]∧st'=st:=fun st=>by
  have:=q30 text st hl
  rw [htk] at this
  exact this
 rw [htk] at hrl hbl hsp
 simp only at hrl hbl hsp
 have hdr:rest.drop (z0 rest.length rest)=text.drop (text.length - rest.length+z0 rest.length rest):=by
  have h1:text.length=(wm g).length+rest.length:=by
   have:=congrArg List.length hsp.1
   simpa using this
  conv=>rhs;rhs;rw [hsp.1]
  rw [← List.drop_drop,show text.length - rest.length=(wm g).length by omega,List.drop_left]
 rw [hdr] at hF
 clear hdr hsp htk
 have hspl:=fun st=>qir rest st (by omega)
 have hcut:cutL (lns rest) rest.length=((z0 rest.length rest:Nat):Int):=q4q _ rest 0 0 rest.length (Nat.le_refl _) (.inr (by omega))
 have hLl:(lns rest).length≤rest.length:=qcw _ rest 0 0 (Nat.le_refl _)
 have hLv:∀ x∈lns rest,x.text.length≤rest.length:=fun x hx=>qti _ rest 0 0 (Nat.le_refl _) x hx
 generalize lns rest=L at hspl hcut hLl hLv
 generalize z0 rest.length rest=a at hF hbl hcut
 have hml:(L.map lnA).length=L.length:=by simp
 apply qe []
 repeat' (first|apply And.intro|(intro h;try exact cDd)|exact⟨Tryz.call60⟩|refine cpe htk2 ?_|exact⟨Tryz.call61⟩|refine cpe hspl ?_|exact cSd|apply qc []|refine exr ?_|refine qi ?_)
 refine jf (X:=Nat) (fun k=>⟨[(0,.s text),(2,.bx 0 0),(5,.i g),(6,.s rest),(7,.a (lnsA L)),(8,.i (cutL (L.drop k) rest.length)),(9,.i ((k:Int) - 1))],[(0,some (.cells 32 [.i 0,.s [],.a zm,.a zm,.s []]))],1⟩) (fun k=>k≤L.length) (fun k=>k) L.length (Nat.le_refl _) ?_ ?_
 ·skip
  repeat' (first|apply And.intro|(intro h;try exact cDd)|exact cSd|apply qc []|refine exr ?_|refine qi ?_)
  all_goals first|(simp [cutL];done)
 ·intro k hk
  cases k with
  |succ j=>
   obtain⟨x,hx⟩:∃ x,L[j]? = some x:=⟨_,List.getElem?_eq_getElem (by omega)⟩
   have hgx:=qi3 hx
   have hxv:=hLv x (List.mem_of_getElem? hx)
   have hbe:=fun st=>q1w x.text st (by omega)
   have hdj:L.drop j=x::L.drop (j+1):=by
    obtain⟨hlt,e⟩:=List.getElem?_eq_some_iff.1 hx
    rw [List.drop_eq_getElem_cons hlt,e]
   apply qe []
   repeat' (first|apply And.intro|(intro h;try exact cDd)|exact⟨Tryz.call62⟩|refine cpe hbe ?_|(refine Exists.intro (j) ⟨by omega,_,hgx,?_⟩)|(refine Exists.intro j ⟨by omega,by omega,?_⟩)|exact cSd|apply qc []|refine exr ?_|refine qi ?_)
   all_goals first|(simp [hdj,cutL,begF, *];done)
  |zero=>
   have hc0:cutL (L.drop 0) rest.length=(a:Int):=by rw [List.drop_zero];exact hcut
   simp only [hc0]
   obtain⟨its,p,n,hpa,hp,hn,hn0⟩:=qo1 (rest.take a) (by simp;omega)
   have hsub:((text.length:Int) - (rest.length:Int))+(a:Int)=((text.length - rest.length+a:Nat):Int):=by omega
   by_cases hz:n=0
   ·rw [hn0.1 hz] at hF
    simp only at hF
    apply qe []
    repeat' (first|apply And.intro|(intro h;try exact cDd)|exact⟨Tryz.call63⟩|refine cpe hpa ?_|exact cSd|apply qc []|refine exr ?_|refine qi ?_)
    refine jf (X:=Nat×Nat×List (List qu)×List Int) (fun (k,f,bs,es)=>⟨[(0,.s text),(2,.bx 0 0),(10,.bx 1 0),(14,.i k)],
      [(0,some (.cells 32 [.i 0,.s [],.a zm,.a zm,.s []])),(1,some (.cells 32 [.i g,.s (rest.take a),.tp 2,.tp 3,.s []])),(2,some (.tip 1 55 (bs.map jg))),(3,some (.tip 1 3 (es.map fun x=>Iv x)))],4⟩)
     (fun (k,f,bs,es)=>k≤text.length∧text.length - k<f∧Go.Pl.recsF f (text.drop k) k bs es=Go.Pl.recsF (text.length+1) (text.drop (text.length - rest.length+a)) ((text.length - rest.length+a:Nat):Int) [] []∧bs.length≤k∧es.length≤k) (fun x=>text.length - x.1) (text.length - rest.length+a,text.length+1,[],[])
     ⟨by omega,by omega,rfl,by simp,by simp⟩ ?_ ?_
    ·skip
     repeat' (first|apply And.intro|(intro h;try exact cDd)|exact cSd|apply qc []|refine exr ?_|refine qi ?_)
     all_goals first|(simp [hsub];done)
    ·rintro⟨k,f,bs,es⟩ ⟨hk,hf,hR,hbl2,hel⟩
     generalize Go.Pl.recsF (text.length+1) (text.drop (text.length - rest.length+a)) ((text.length - rest.length+a:Nat):Int) [] []=R at hF hR
     obtain⟨f,rfl⟩:∃ f',f=f'+1:=⟨f - 1,by omega⟩
     have hrd:=fun st=>zau (text.drop k) st (by simp;omega)
     have hll:(text.drop k).length=text.length - k:=by simp
     have hbd:=qh4 (l:=text.drop k)
     have hde:=fun st=>q3s (zb (text.drop k)).2.1 st (by omega)
     rcases qtx (text.drop k) with h1|h2|h3
     ·rw [h1] at hrd
      obtain⟨n',hn',hn0',hnl⟩:=qxa h1
      cases hdd:decF (zb (text.drop k)).2.1 with
      |none=>
       rw [qxc h1 hdd] at hR
       rw [hdd] at hde
       rw [← hR] at hF
       rw [hF]
       apply qe []
       repeat' (first|apply And.intro|(intro h;try exact cDd)|exact⟨Tryz.call64⟩|refine cpe hrd ?_|exact⟨Tryz.call65⟩|refine cpe hde ?_|exact cSd|apply qc []|refine exr ?_|refine qi ?_)
       all_goals first|(simp [qce,qai,ErrV.pos,ErrV.code];done)|(rw [← hR,List.drop_drop,Int.natCast_add];done)|(rw [← hR,List.drop_drop,Int.natCast_add];rfl)
      |some b=>
       rw [qty h1 hdd hn'] at hR
       rw [hdd] at hde
       rw [hn'] at hrd
       apply qe []
       repeat' (first|apply And.intro|(intro h;try exact cDd)|exact⟨Tryz.call64⟩|refine cpe hrd ?_|exact⟨Tryz.call65⟩|refine cpe hde ?_|(refine Exists.intro (k+n',f,bs++[b],es++[((k+n':Nat):Int)]) ⟨?_,by simp only;omega,?_⟩)|exact cSd|apply qc []|refine exr ?_|refine qi ?_)
       all_goals first|(simp [qce,qai,ErrV.pos,ErrV.code];done)|(rw [← hR,List.drop_drop,Int.natCast_add];done)|(rw [← hR,List.drop_drop,Int.natCast_add];rfl)
     ·rw [h2] at hrd
      rw [qtz h2] at hR
      rw [← hR] at hF
      rw [hF]
      apply qe []
      repeat' (first|apply And.intro|(intro h;try exact cDd)|exact⟨Tryz.call64⟩|refine cpe hrd ?_|exact⟨Tryz.call65⟩|refine cpe hde ?_|exact cSd|apply qc []|refine exr ?_|refine qi ?_)
      all_goals first|(simp [qce,qai,ErrV.pos,ErrV.code];done)|(rw [← hR,List.drop_drop,Int.natCast_add];done)|(rw [← hR,List.drop_drop,Int.natCast_add];rfl)
     ·rw [h3] at hrd
      rw [qxd h3] at hR
      rw [← hR] at hF
      rw [hF]
      obtain⟨b',o',hbo⟩:=q1z (decF (zb (text.drop k)).2.1)
      rw [hbo] at hde
      apply qe []
      repeat' (first|apply And.intro|(intro h;try exact cDd)|exact⟨Tryz.call64⟩|refine cpe hrd ?_|exact⟨Tryz.call65⟩|refine cpe hde ?_|exact cSd|apply qc []|refine exr ?_|refine qi ?_)
      all_goals first|(simp [qce,qai,ErrV.pos,ErrV.code];done)|(rw [← hR,List.drop_drop,Int.natCast_add];done)|(rw [← hR,List.drop_drop,Int.natCast_add];rfl)
   ·have e:jv text=(jt (rest.take a),qai):=by
     rw [hF]
     cases hpe:jt (rest.take a) with
     |no=>exact absurd (hn0.2 hpe) hz
     | _=>rfl
    rw [e]
    unfold qce
    simp only
    rw [← hp,← hn]
    apply qe []
    repeat' (first|apply And.intro|(intro h;try exact cDd)|exact⟨Tryz.call63⟩|refine cpe hpa ?_|exact cSd|apply qc []|refine exr ?_|refine qi ?_)
    all_goals first|(simp [qce,qai,ErrV.pos,ErrV.code];done)|(rw [← hR,List.drop_drop,Int.natCast_add];done)|(rw [← hR,List.drop_drop,Int.natCast_add];rfl)
theorem qsk {text:Bytes} (h:(jv text).1≠.no):(jv text).1.code≠0:=by
 unfold jv at h ⊢
 split
 ·simp [ErrV.code]
 ·rename_i hb
  rw [if_neg hb] at h
  cases hpe:jt (y4 text) with
  |no=>
   rw [hpe] at h
   simp only at h ⊢
   split
   ·simp [ErrV.code]
   ·rename_i hr
    rw [if_neg hr] at h
    exact absurd rfl h
  |num n=>have:=qmz hpe;simp [ErrV.code];omega
  |at' a n=>have:=qox hpe;simpa [ErrV.code] using this
theorem zfo (x:List qu):∃ p n,(eErr x).pos=p∧(eErr x).code=n∧(n=0↔eErr x = .no):=⟨_,_,rfl,rfl,qdq x⟩
end Go.Proofs.YtmoklbacdkmkaaaGreatDoor
