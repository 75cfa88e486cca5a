/- Contracts and plain facts that the closing text leans on (part 8). No condition of their own beyond those that each states. -/
import Derived.Test.YtneejjefekdgjaaGreatDoorK7
set_option maxRecDepth 100000
set_option linter.unusedVariables false
set_option linter.unusedSimpArgs false
namespace Go.Proofs.YtneejjefekdgjaaGreatDoor
open Go Go.Av Go.RowKit Go.Proofs Go.Pl
theorem zb6 {a b:qa}:∀ x∈[Sv a,Sv b],Pure x:=by
 intro x hx
 simp only [List.mem_cons,List.not_mem_nil,or_false] at hx
 rcases hx with rfl|rfl <;> exact qx _
theorem zb4 {a:List Fld}:∀ x∈[jj a],Pure x:=by
 intro x hx
 simp only [List.mem_cons,List.not_mem_nil,or_false] at hx
 subst hx
 exact qcd _
theorem q5i {b:List qr} {k:Nat} (hk:k<b.length):encF (b.take (k+1))=((encF (b.take k)++jz (b.getD k ⟨0,0,[]⟩))++[10])++yn [32,32] (jt (b.getD k ⟨0,0,[]⟩).fields):=by
 rw [List.take_succ_eq_append_getElem hk,qw2,qw3]
 have e:b.getD k ⟨0,0,[]⟩=b[k]:=by simp [List.getD,hk]
 rw [e]
 unfold jx
 simp [List.append_assoc]
set_option maxHeartbeats 2000000 in
theorem ql2 (b:List qr) (st:List AObj) (hB:∀ x∈b,EdB x) (he:eErr b = .no):qn E 106 [jm b] st fun r st'=>r=Sv (encF b)∧st'=st:=by
 refine qu (qx _) (qo Tryz.func106 rfl (Nat.le_of_ble_eq_true rfl) ?_)
 have hml:(b.map q8).length=b.length:=by simp
 obtain⟨hb1,hb40,hg⟩:=qjz he
 repeat' (first|apply qm|apply qt|apply qd|apply qc|apply qe)
 refine jh (fun (k:Nat) s=>k≤b.length∧StE [(0,jm b),(3,Sv (encF (b.take k))),(4,Iv k)] st [] s) (fun k=>b.length - k) 0 ⟨by omega,qcs ⟨rfl,rfl,rfl,trivial⟩ rfl⟩ ?_
 rintro k _ ⟨hk,t,ext,rfl⟩
 by_cases hc:k<b.length
 ·have hm:b.getD k ⟨0,0,[]⟩∈b:=by simp [List.getD,hc]
  have hxb:=hB _ hm
  have hxg:=hg _ hm
  have hnx:=q5i hc
  have hpl:=qkt (b.take k) (fun y hy=>hB y (List.mem_of_mem_take hy)) (fun y hy=>hg y (List.mem_of_mem_take hy))
  have hget:(b.map q8)[k]? = some (q8 (b.getD k ⟨0,0,[]⟩)):=qbb hc
  generalize b.getD k ⟨0,0,[]⟩=x at hm hxb hxg hnx hget
  obtain⟨hfl,hfg⟩:=qnk hxg
  have hll:=qmu x hxb.id1 hxb.id2
  have hfo:=qgo x.fields hfg
  have hin:=qjh (jt x.fields)
  have htk:(b.take k).length≤40:=by rw [List.length_take];omega
  repeat' (first|apply qm|apply qt|apply qd|apply qc|apply qi|apply qe|(apply qq;(iterate 3 exact rfl))|(apply qb;exact rfl;apply ki;exact cAo)|(apply kl;(iterate 4 exact rfl))|(apply zt;exact rfl;exact rfl;exact zb (by omega) (by omega))|(apply qau;exact rfl;kernel_rfl)|apply qbv|(apply qik;exact rfl;exact rfl;exact cOs)|(apply qag;(iterate 3 exact rfl))|(apply y0;(iterate 4 exact rfl))|apply qao|apply qij|apply qw|(apply vg (n:=k);(iterate 5 exact rfl);exact hget)|(refine qhu (args:=[q8 x]) qj0 Tryz.call181 rfl zdf (qfl _) (fun _=>.v _) (qun x _ hxb.id1 hxb.id2) ?_)|(refine qhu (args:=[jj x.fields]) qj0 Tryz.call183 rfl zb4 (qfl _) (fun _=>.v _) (q3x x.fields _ (q5p hfl hfg)) ?_)|(refine qhu (args:=[Sv (jt x.fields),Sv [32,32]]) qj0 Tryz.call182 rfl zb6 (qfl _) (fun _=>.v _) (q0f (jt x.fields) [32,32] _ (by omega) (by decide)) ?_))
  exact⟨k+1,⟨by omega,qaf ⟨rfl,congrArg Sv hnx.symm,rfl,trivial⟩ rfl⟩,by omega⟩
 ·have e:k=b.length:=by omega
  subst e
  rw [List.take_length]
  repeat' (first|apply qm|apply qd|apply qc|apply qi|apply qe|(apply qq;(iterate 3 exact rfl))|(apply qb;exact rfl;apply vw;exact cAo)|(apply kl;(iterate 4 exact rfl))|apply z7|apply qs)
  exact qk rfl (qz rfl) ⟨rfl,xg _ _ _ _⟩
theorem q5c:∀ (ps:List qa) (acc b:List qr),(∀ x∈acc,EdB x)→decP ps acc=some b→∀ x∈b,EdB x
 | [],acc,b,h,e=>by
  rw [decP] at e
  cases e
  exact h
 |p::r,acc,b,h,e=>by
  rw [decP] at e
  split at e
  ·simp at e
  ·rename_i k n hb
   split at e
   ·refine q5c r _ b (fun x hx=>?_) e
    rcases List.mem_append.1 hx with hx|hx
    ·exact h x hx
    ·obtain rfl:=List.mem_singleton.1 hx
     exact q5h (qsh hb).1 (qsh hb).2 (qoi _)
   ·simp at e
theorem q5b {text:qa} {b:List qr} (h:decF text=some b):∀ x∈b,EdB x:=by
 unfold decF at h
 split at h
 ·simp at h
 ·split at h
  ·simp at h
  ·rename_i c hc
   split at h
   ·cases h
    exact q5c _ _ _ (by simp) hc
   ·simp at h
end Go.Proofs.YtneejjefekdgjaaGreatDoor
namespace Go.Pl
open Go Go.Proofs Go.Proofs.YtneejjefekdgjaaGreatDoor
def addF (out:List qr) (f:Fld):List qr:=match out.getLast? with
 |none=>out
 |some x=>out.dropLast++[⟨x.kind,x.id,x.fields++[f]⟩]
def yh (out:List qr) (held:List qa):Option (List qr):=
 if held=[] then some out else if (zp held).2=0 then some (addF out (zp held).1) else none
def tryR (l:qa) (e:Option (Int×Int)) (k:Int):Option (Int×Int):=
 if x9 k <+: l then match numZ (l.drop (x9 k).length) with
  |some n=>some (k,n)
  |none=>e
 else e
def begR (l:qa):Option (Int×Int):=tryR l (tryR l (tryR l none 1) 2) 3
def kh:List qa→List qr→List qa→Option (List qr)
 | [],out,held=>yh out held
 |l::r,out,held=>
  match (if held≠[]∧¬ [32,32,32] <+: l then (yh out held).map fun o=>(o,([]:List qa)) else some (out,held)) with
  |none=>none
  |some (o,h)=>
   if [32,32] <+: l then if o=[] then none else kh r o (h++[l.drop 2])
   else match begR l with
    |none=>none
    |some (k,n)=>if 40≤o.length then none else kh r (o++[⟨k,n,[]⟩]) h
theorem q4j (b:List qr) (k n:Int) (gs:List Fld) (f:Fld):addF (b++[⟨k,n,gs⟩]) f=b++[⟨k,n,gs++[f]⟩]:=by
 unfold addF
 simp
def qp2 (held:List qa) (pe:List Fld):Prop:=(held=[]∧pe=[])∨∃ g,ju g∧held=zj g∧pe=[g]
theorem qkw {b:List qr} {k n:Int} {gs pe:List Fld} {held:List qa} (h:qp2 held pe):yh (b++[⟨k,n,gs⟩]) held=some (b++[⟨k,n,gs++pe⟩]):=by
 unfold yh
 rcases h with⟨rfl,rfl⟩ | ⟨g,hg,rfl,rfl⟩
 ·simp
 ·have hu:=ql0 hg
  rw [if_neg (by simp [zj]),hu,if_pos rfl,q4j]
theorem ind3 {s:qa} (h:[32] <+: s):[32,32,32] <+: [32,32]++s:=by
 obtain⟨t,rfl⟩:=h
 exact⟨t,rfl⟩
theorem q8v {s:qa} (h:¬ [32] <+: s):¬ [32,32,32] <+: [32,32]++s:=fun ⟨t,ht⟩=>h ⟨t,by simpa using ht⟩
theorem q67 {s:qa} {r:List qa} {out:List qr} {held:List qa} (hs:[32] <+: s) (hne:out≠[]):kh (([32,32]++s)::r) out held=kh r out (held++[s]):=by
 rw [kh,if_neg (fun h=>h.2 (ind3 hs))]
 simp only
 rw [if_pos (List.prefix_append _ _),if_neg hne]
 rfl
theorem qur:∀ (m:List qa) {r:List qa} {out:List qr} {held:List qa},(∀ s∈m,[32] <+: s)→out≠[]→kh (m.map (fun s=>[32,32]++s)++r) out held=kh r out (held++m)
 | [],r,out,held,_,_=>by simp
 |s::m,r,out,held,h,hne=>by
  rw [List.map_cons,List.cons_append,q67 (h s (by simp)) hne,qur m (fun x hx=>h x (by simp [hx])) hne]
  simp
theorem q66 {s:qa} {r:List qa} {b:List qr} {k n:Int} {gs pe:List Fld} {held:List qa} (hs:¬ [32] <+: s) (hh:qp2 held pe):kh (([32,32]++s)::r) (b++[⟨k,n,gs⟩]) held=kh r (b++[⟨k,n,gs++pe⟩]) [s]:=by
 rw [kh]
 have hi:=q8v hs
 have e:(if held≠[]∧¬ [32,32,32] <+: [32,32]++s then (yh (b++[⟨k,n,gs⟩]) held).map fun o=>(o,([]:List qa)) else some (b++[⟨k,n,gs⟩],held))=some (b++[⟨k,n,gs++pe⟩],[]):=by
  by_cases h0:held=[]
  ·rcases hh with⟨_,rfl⟩ | ⟨g,_,h1,_⟩
   ·rw [if_neg (fun h=>h.1 h0),h0];simp
   ·rw [h0] at h1;simp [zj] at h1
  ·rw [if_pos ⟨h0,hi⟩,qkw hh];rfl
 rw [e]
 simp only
 rw [if_pos (List.prefix_append _ _),if_neg (by simp)]
 rfl
theorem qxt {f:Fld} (h:ju f):∃ hd mr,zj f=hd::mr∧¬ [32] <+: hd∧∀ s∈mr,[32] <+: s:=by
 refine⟨_,_,rfl,?_,fun s hs=>?_⟩
 ·obtain⟨h1,_,h3,_⟩:=h.1
  rintro⟨t,ht⟩
  apply h3
  cases hk:f.1 with
  |nil=>exact absurd hk h1
  |cons c l=>
   unfold jy at ht
   rw [hk] at ht
   have:=(List.cons.inj ht).1
   rw [← this]
   simp [qdy,vv]
 ·obtain⟨x,_,rfl⟩:=List.mem_map.1 hs
  exact List.prefix_append _ _
def qvv (R:List qa):Prop:=∀ l r,R=l::r→¬ [32,32] <+: l
theorem zca {R:List qa} {b:List qr} {k n:Int} {gs pe:List Fld} {held:List qa} (hR:qvv R) (hh:qp2 held pe):kh R (b++[⟨k,n,gs⟩]) held=kh R (b++[⟨k,n,gs++pe⟩]) []:=by
 cases R with
 |nil=>
  rw [kh,kh,qkw hh]
  simp [yh]
 |cons l r=>
  have h2:=hR l r rfl
  have h3:¬ [32,32,32] <+: l:=fun ⟨t,ht⟩=>h2 ⟨[32]++t,by rw [← ht];rfl⟩
  have e:(if held≠[]∧¬ [32,32,32] <+: l then (yh (b++[⟨k,n,gs⟩]) held).map fun o=>(o,([]:List qa)) else some (b++[⟨k,n,gs⟩],held))=some (b++[⟨k,n,gs++pe⟩],[]):=by
   by_cases h0:held=[]
   ·rcases hh with⟨_,rfl⟩ | ⟨g,_,h1,_⟩
    ·rw [if_neg (fun h=>h.1 h0),h0];simp
    ·rw [h0] at h1;simp [zj] at h1
   ·rw [if_pos ⟨h0,h3⟩,qkw hh];rfl
  rw [kh,e,kh,if_neg (fun h=>h.1 rfl)]
theorem quq:∀ (fs:List Fld) {R:List qa} {b:List qr} {k n:Int} {gs pe:List Fld} {held:List qa},qvv R→(∀ f∈fs,ju f)→qp2 held pe →
  kh ((fs.flatMap zj).map (fun s=>[32,32]++s)++R) (b++[⟨k,n,gs⟩]) held=kh R (b++[⟨k,n,gs++pe++fs⟩]) []
 | [],R,b,k,n,gs,pe,held,hR,_,hh=>by
  rw [List.flatMap_nil,List.map_nil,List.nil_append,zca hR hh,List.append_nil]
 |f::fs,R,b,k,n,gs,pe,held,hR,hf,hh=>by
  have hgf:=hf f (by simp)
  obtain⟨hd,mr,hl,h1,h2⟩:=qxt hgf
  rw [List.flatMap_cons,List.map_append,hl,List.map_cons,List.append_assoc,List.cons_append,q66 h1 hh,qur mr h2 (by simp)]
  have e:[hd]++mr=zj f:=by rw [hl];rfl
  rw [e,quq fs hR (fun x hx=>hf x (by simp [hx])) (.inr ⟨f,hgf,rfl,rfl⟩)]
  simp
theorem q44 {x:qr} (hx:EncG x):begR (jz x)=some (x.kind,x.id):=by
 have hl:jz x=x9 x.kind++Lib.itoa x.id:=by
  unfold jz
  rw [if_pos (by have:=hx.kind;omega)]
 have hself:∀ e,tryR (jz x) e x.kind=some (x.kind,x.id):=fun e=>by
  unfold tryR
  rw [hl,if_pos (List.prefix_append _ _),List.drop_left,qeu hx.id1 hx.id2]
 have hoth:∀ (j:Int) e,(j=1∨j=2∨j=3)→j≠x.kind→tryR (jz x) e j=e:=fun j e hj hne=>by
  unfold tryR
  rw [hl,if_neg (qq4 hj hx.kind hne)]
 unfold begR
 rcases hx.kind with h|h|h
 ·rw [h] at hself hoth ⊢
  rw [hself,hoth 2 _ (by simp) (by decide),hoth 3 _ (by simp) (by decide)]
 ·rw [h] at hself hoth ⊢
  rw [hself,hoth 3 _ (by simp) (by decide)]
 ·rw [h] at hself hoth ⊢
  rw [hself]
theorem qul:∀ (r b:List qr),(∀ x∈r,EncG x)→b.length+r.length≤40→kh (encL r) b []=some (b++r)
 | [],b,_,_=>by
  simp [encL,kh,yh]
 |x::r,b,h,hl=>by
  have hx:=h x (by simp)
  simp only [List.length_cons] at hl
  have e:encL (x::r)=jz x::(qa0 x++encL r):=by simp [encL]
  have hR:qvv (encL r):=fun l t et=>by
   cases r with
   |nil=>simp [encL] at et
   |cons y r=>
    have e:encL (y::r)=jz y::(qa0 y++encL r):=by simp [encL]
    rw [e] at et
    rw [← (List.cons.inj et).1]
    exact qjk (h y (by simp)).kind
  rw [e,kh,if_neg (fun h=>h.1 rfl)]
  simp only
  rw [if_neg (qjk hx.kind),q44 hx]
  simp only
  rw [if_neg (by omega)]
  unfold qa0
  rw [quq x.fields hR hx.good (.inl ⟨rfl,rfl⟩),qul r _ (fun y hy=>h y (by simp [hy])) (by simp;omega)]
  simp
def OutG (out:List qr) (m:Nat):Prop:=∀ x∈out,(∀ f∈x.fields,ju f)∧x.fields.length≤m∧-9223372036854775808≤x.id∧x.id≤9223372036854775807
theorem OutG.mono {out:List qr} {m m':Nat} (h:OutG out m) (hm:m≤m'):OutG out m':=fun x hx=>⟨(h x hx).1,by have:=(h x hx).2.1;omega,(h x hx).2.2⟩
theorem qvx {out:List qr} {f:Fld} {m:Nat} (h:OutG out m) (hf:ju f):OutG (addF out f) (m+1):=by
 unfold addF
 cases hl:out.getLast? with
 |none=>exact h.mono (by omega)
 |some y=>
  have hy:=h y (List.mem_of_getLast? hl)
  intro x hx
  rcases List.mem_append.1 hx with hx|hx
  ·exact h.mono (by omega) x ((List.dropLast_sublist out).subset hx)
  ·obtain rfl:=List.mem_singleton.1 hx
   refine⟨fun g hg=>?_,by simp;exact hy.2.1,hy.2.2⟩
   rcases List.mem_append.1 hg with hg|hg
   ·exact hy.1 g hg
   ·obtain rfl:=List.mem_singleton.1 hg
    exact hf
theorem qxd {out o:List qr} {held:List qa} {m:Nat} (h:OutG out m) (e:yh out held=some o):OutG o (m+1):=by
 unfold yh at e
 split at e
 ·cases e;exact h.mono (by omega)
 ·split at e
  ·rename_i hu
   cases e
   exact qvx h (qgi hu)
  ·simp at e
theorem qzd {l:qa} {e:Option (Int×Int)} {j k n:Int} (he:∀ k n,e=some (k,n)→-9223372036854775808≤n∧n≤9223372036854775807) (h:tryR l e j=some (k,n)) : -9223372036854775808≤n∧n≤9223372036854775807:=by
 unfold tryR at h
 split at h
 ·split at h
  ·rename_i v hv
   cases h
   exact (qi6 hv).2
  ·exact he _ _ h
 ·exact he _ _ h
theorem q43 {l:qa} {k n:Int} (h:begR l=some (k,n)) : -9223372036854775808≤n∧n≤9223372036854775807:=
 qzd (fun _ _ h=>qzd (fun _ _ h=>qzd (fun _ _ h=>by simp at h) h) h) h
theorem qsu:∀ (L:List qa) {out b:List qr} {held:List qa} {m:Nat},OutG out m→kh L out held=some b→OutG b (m+L.length+1)
 | [],out,b,held,m,h,e=>by
  rw [kh] at e
  exact (qxd h e).mono (by simp)
 |l::r,out,b,held,m,h,e=>by
  rw [kh] at e
  split at e
  ·simp at e
  ·rename_i o hd he
   have ho:OutG o (m+1):=by
    split at he
    ·obtain⟨o',h1,h2⟩:=Option.map_eq_some_iff.1 he
     cases h2
     exact qxd h h1
    ·cases he;exact h.mono (by omega)
   split at e
   ·split at e
    ·simp at e
    ·exact (qsu r ho e).mono (by simp;omega)
   ·split at e
    ·simp at e
    ·rename_i k n hb
     split at e
     ·simp at e
     ·refine (qsu r (m:=m+1) (fun x hx=>?_) e).mono (by simp;omega)
      rcases List.mem_append.1 hx with hx|hx
      ·exact ho x hx
      ·obtain rfl:=List.mem_singleton.1 hx
       exact⟨by simp,by simp,q43 hb⟩
theorem q6d {b:List qr} {m:Nat} (h:OutG b m) (hm:m<9223372036854775808):∀ x∈b,EdB x:=fun x hx=>by
 obtain⟨h1,h2,h3,h4⟩:=h x hx
 exact⟨fun f hf=>by have:=(h1 f hf).1.2.1;omega,by omega,h3,h4⟩
def qb2 (text:qa):Option (List qr):=if 50000<text.length then none else match kh ((lns text).map fun x=>x.text) [] [] with
 |none=>none
 |some b=>if eErr b = .no∧encF b=text then some b else none
theorem q82 (l:qa):(lns l).map (fun x=>x.text)=(zr l).map Prod.fst:=by
 rw [← qmw,List.map_map]
 rfl
theorem q6p (text:qa):qb2 text=decF text:=by
 by_cases hbig:50000<text.length
 ·unfold qb2 decF
  rw [if_pos hbig,if_pos hbig]
 have hn:=qb7 _ text 0 0 (Nat.le_refl _)
 cases hd:decF text with
 |some b=>
  obtain⟨he,ht,_⟩:=qwy hd
  obtain⟨h1,h40,hg⟩:=qjz he
  have hB:=q5b hd
  have hG:∀ y∈b,EncG y:=fun y hy=>qsl (hg y hy) (hB y hy)
  have hl:(lns text).map (fun x=>x.text)=encL b:=by
   rw [q82,← ht,qtx hG,qby,List.map_map]
   ·simp [Function.comp_def]
   ·intro s hs
    obtain⟨x,hx,hs⟩:=List.mem_flatMap.1 hs
    rcases List.mem_cons.1 hs with rfl|hs
    ·exact qb6 x
    ·exact qtl (hG x hx).good s hs
  unfold qb2
  rw [if_neg hbig,hl,qul b [] hG (by simp;omega)]
  simp only [List.nil_append]
  rw [if_pos ⟨he,ht⟩]
 |none=>
  unfold qb2
  rw [if_neg hbig]
  cases hr:kh ((lns text).map fun x=>x.text) [] [] with
  |none=>rfl
  |some b=>
   simp only
   split
   ·rename_i hc
    have hB:=q6d (qsu _ (m:=0) (by intro x hx;simp at hx) hr) (by
     have:(lns text).length≤text.length:=hn
     simp
     omega)
    have:=q04 hc.1 hB (by rw [hc.2];omega)
    rw [hc.2,hd] at this
    simp at this
   ·rfl
end Go.Pl
namespace Go.Proofs.YtneejjefekdgjaaGreatDoor
open Go Go.Av Go.RowKit Go.Proofs Go.Pl
def qb1:Option (List qr)→AV
 |none=>.tu [jm [],Bv false]
 |some b=>.tu [jm b,Bv true]
end Go.Proofs.YtneejjefekdgjaaGreatDoor
namespace Go.Pl
open Go Go.Proofs
def vh:List (qa×Bool)→List qa
 | []=>[]
 |(t,_)::r=>if qy t=3 then t::vh r else []
def wy (prev:Bool) (t:qa) (e:Bool) (r:List (qa×Bool)) (fields:Nat) (records:Int):Int:=
 if qy t=5∨(qy t=3∧prev=false)∨e=false then 2
 else if qy t≠4 then 0
 else if (zp (t::vh r)).2≠0 then (zp (t::vh r)).2
 else if 40≤fields∨(fields=0∧400≤records) then 11 else 0
theorem qog {α : Type} {l:List α} {x : α} (h:l.getLast? = some x):l.dropLast++[x]=l:=by
 have hne:l≠[]:=fun e=>by subst e;simp at h
 rw [List.getLast?_eq_some_getLast hne] at h
 obtain rfl:=Option.some.inj h
 exact List.dropLast_concat_getLast hne
def outR (now:ka) (out:List ka):List ka:=if now.raw=[] then out else out++[now]
def refL:Nat→List (qa×Bool)→Bool→ka→Int→List ka→Option (Int×Int)×List ka
 | _,[],_,now,_,out=>(none,outR now out)
 |i,(t,e)::r,prev,now,rec,out=>
  if wy prev t e r now.fields.length rec≠0 then (some ((i:Int),wy prev t e r now.fields.length rec),[])
  else if qy t=1 then refL (i+1) r false ⟨2,[],[]⟩ rec (outR now out++[⟨1,t++[10],[]⟩])
  else if qy t=4 then refL (i+1) r true ⟨3,now.raw++t++[10],now.fields++[(zp (t::vh r)).1]⟩ (if now.kind=2 then rec+1 else rec) out
  else refL (i+1) r (decide (qy t=3)) ⟨now.kind,now.raw++t++[10],now.fields⟩ rec out
def qvi:List (qa×Bool)→Prop
 | []=>True
 |(_,e)::r=>(e=false→r=[])∧qvi r
theorem qor:∀ (n:Nat) (l:qa),l.length≤n→qvi (zr l)
 | 0,l,h=>by
  have:l=[]:=List.length_eq_zero_iff.1 (by omega)
  subst this
  rw [wh]
  trivial
 |n+1,l,h=>by
  by_cases hl:l=[]
  ·subst hl
   rw [wh]
   trivial
  ·rw [wc hl]
   refine⟨fun he=>?_,qor n _ (by have:=wi (c:=10) hl;omega)⟩
   have h10:10∉l:=by simpa using he
   have:past 10 l=[]:=by
    unfold past
    rw [wm h10]
    exact List.drop_eq_nil_of_le (by omega)
   rw [this,wh]
def qd0 (ls:List qa) (full:Bool):Int:=if (zp ls).2≠0 then (zp ls).2 else if full=true then 11 else 0
theorem qha {p:PSt} (h:p.lines≠[]) (hc:qd0 p.lines p.full≠0):(jr p).1=some (p.frm,qd0 p.lines p.full):=by
 unfold qd0 at *
 unfold jr
 rw [if_neg h]
 by_cases h1:(zp p.lines).2≠0
 ·rw [if_pos h1,if_pos h1]
 ·rw [if_neg h1] at hc ⊢
  rw [if_neg h1]
  by_cases h2:p.full=true
  ·rw [if_pos h2,if_pos h2]
  ·rw [if_neg h2] at hc
   exact absurd rfl hc
theorem qt1 {p:PSt} (h:p.lines=[]∨qd0 p.lines p.full=0):jr p=(none,{ p with lines:=[],fields:=p.fields++(if p.lines=[] then [] else [(zp p.lines).1]) }):=by
 unfold jr
 by_cases h0:p.lines=[]
 ·rw [if_pos h0,if_pos h0]
  obtain⟨a,b,c,d,e,f,g⟩:=p
  simp only at h0
  subst h0
  simp
 ·rw [if_neg h0,if_neg h0]
  have h:=h.resolve_left h0
  unfold qd0 at h
  by_cases h1:(zp p.lines).2≠0
  ·rw [if_pos h1] at h
   exact absurd h h1
  ·rw [if_neg h1] at h ⊢
   by_cases h2:p.full=true
   ·rw [if_pos h2] at h
    simp at h
   ·rw [if_neg h2]
theorem qpx {p:PSt} {no:Int} {t:qa} {e:Bool} {x:Int×Int} (h:(jn p no t e (qy t)).1=some x):(wq p no t e).1=some x:=by
 unfold wq
 rw [h]
theorem qpy {p q:PSt} {no:Int} {t:qa} {e:Bool} (h:jn p no t e (qy t)=(none,q)) (hc:qy t=5∨e=false):(wq p no t e).1=some (no,2):=by
 unfold wq
 rw [h]
 simp only
 rw [if_pos hc]
theorem qkg {p q:PSt} {no:Int} {t:qa} (h:jn p no t true (qy t)=(none,q)) (hc:qy t≠5):wq p no t true =
  if qy t=1 then (none,{ q with items:=q.items++[⟨1,t++[10],[]⟩] }) else if qy t=4 then (none,{ km q no t with block:=q.block++[t] }) else (none,{ q with block:=q.block++[t] }):=by
 unfold wq
 rw [h]
 simp only
 rw [if_neg (by simp [hc])]
theorem qez {k:Nat} {t:qa} {e:Bool} {r:List (qa×Bool)} {p:PSt} {x:Int×Int} (h:(wq p k t e).1=some x):(runL k ((t,e)::r) p).1=some x:=by
 rw [runL,h]
theorem qgr {k:Nat} {t:qa} {e:Bool} {r:List (qa×Bool)} {p q:PSt} (h:wq p k t e=(none,q)):runL k ((t,e)::r) p=runL (k+1) r q:=by
 rw [runL,h]
theorem qp6 {p:PSt} {no:Int} {t:qa} (hk:qy t=3) (hl:p.lines≠[]):jn p no t true (qy t)=(none,{ p with lines:=p.lines++[t] }):=by
 unfold jn
 rw [if_pos hk,if_neg hl,if_pos rfl]
theorem qp5 {p:PSt} {no:Int} {t:qa} (hk:qy t=3) (hl:p.lines≠[]):jn p no t false (qy t)=jr { p with lines:=p.lines++[t] }:=by
 unfold jn
 rw [if_pos hk,if_neg hl,if_neg (by simp)]
theorem qf4 {p:PSt} {no:Int} {t:qa} {e:Bool} (hk:qy t≠3) (h1:qy t≠1):jn p no t e (qy t)=jr p:=by
 unfold jn
 rw [if_neg hk,if_neg h1]
theorem qjb {p:PSt} {no:Int} {t:qa} {e:Bool} (h1:qy t=1):jn p no t e (qy t)=endP p:=by
 unfold jn
 rw [if_neg (by omega),if_pos h1]
theorem qk8 {t:qa} {e:Bool} {r:List (qa×Bool)} (h:qy t≠3):vh ((t,e)::r)=[]:=by
 rw [vh,if_neg h]
theorem qgb {t:qa} {e:Bool} {r:List (qa×Bool)} (h:qy t=3):vh ((t,e)::r)=t::vh r:=by
 rw [vh,if_pos h]
theorem qw4 {p:PSt} {x:Int×Int} (h:(jr p).1=some x):(endP p).1=some x:=by
 unfold endP
 rw [h]
theorem qsm {p q:PSt} (h:jr p=(none,q)):endP p=(none,yg q):=by
 unfold endP
 rw [h]
theorem qyf:∀ (r:List (qa×Bool)) (p:PSt) (k:Nat) (c:Int),qvi r→p.lines≠[]→qd0 (p.lines++vh r) p.full=c→c≠0→(runL k r p).1=some (p.frm,c)
 | [],p,k,c,_,hl,hc,h0=>by
  rw [vh,List.append_nil] at hc
  rw [runL]
  subst hc
  exact qw4 (qha hl h0)
 |(t,e)::r,p,k,c,hE,hl,hc,h0=>by
  by_cases h3:qy t=3
  ·rw [qgb h3] at hc
   cases e with
   |true=>
    have ht:=qkg (qp6 (no:=k) h3 hl) (by omega)
    rw [if_neg (by omega),if_neg (by omega)] at ht
    rw [qgr ht]
    exact qyf r _ (k+1) c hE.2 (by simp) (by simpa using hc) h0
   |false=>
    have hr:=hE.1 rfl
    subst hr
    refine qez (qpx ?_)
    rw [qp5 h3 hl]
    have hc':qd0 (p.lines++[t]) p.full=c:=hc
    have:=qha (p:={ p with lines:=p.lines++[t] }) (by simp) (by simp only;rw [hc'];exact h0)
    simp only at this
    rw [this,hc']
  ·rw [qk8 h3,List.append_nil] at hc
   subst hc
   refine qez (qpx ?_)
   by_cases h1:qy t=1
   ·rw [qjb h1]
    exact qw4 (qha hl h0)
   ·rw [qf4 h3 h1]
    exact qha hl h0
structure Sim (r:List (qa×Bool)) (p:PSt) (prev:Bool) (now:ka) (rec:Int) (out:List ka):Prop where
 hprev:prev=decide (p.lines≠[])
 hok:p.lines=[]∨qd0 (p.lines++vh r) p.full=0
 hraw:now.raw=zn p.block
 hfields:now.fields=p.fields++(if p.lines=[] then [] else [(zp (p.lines++vh r)).1])
 hkind:now.kind=if now.fields=[] then 2 else 3
 hrec:rec=p.records+if now.fields=[] then 0 else 1
 hout:out=p.items
 hempty:p.block=[]→p.lines=[]∧p.fields=[]
 b1:now.fields.length≤40
 b2:rec≤400
theorem q7d (b:List qa):zn b=[]↔b=[]:=by
 cases b with
 |nil=>simp [zn]
 |cons x r=>simp [zn]
theorem qlr (b:List qa) (t:qa):zn (b++[t])=zn b++t++[10]:=by simp [zn]
theorem Sim.flush {r:List (qa×Bool)} {p:PSt} {prev:Bool} {now:ka} {rec:Int} {out:List ka} (h:Sim r p prev now rec out) (hm:vh r=[]):jr p=(none,{ p with lines:=[],fields:=now.fields }):=by
 have h1:=h.hok
 have h2:=h.hfields
 rw [hm,List.append_nil] at h1 h2
 rw [qt1 h1,h2]
theorem Sim.close {r:List (qa×Bool)} {p:PSt} {prev:Bool} {now:ka} {rec:Int} {out:List ka} (h:Sim r p prev now rec out) (hm:vh r=[]):yg { p with lines:=[],fields:=now.fields }={ p with lines:=[],fields:=[],block:=[],items:=outR now out,records:=rec }:=by
 have hk:=h.hkind
 have hr:=h.hrec
 have hw:=h.hraw
 have ho:=h.hout
 unfold yg outR
 simp only
 by_cases hb:p.block=[]
 ·obtain⟨e1,e2⟩:=h.hempty hb
  have hf:now.fields=[]:=by rw [h.hfields,e1,e2];simp
  rw [if_pos hb,if_pos (by rw [hw,hb];rfl),ho,hr,hf]
  simp
 ·have hne:¬ now.raw=[]:=by rw [hw,q7d];exact hb
  rw [if_neg hb,if_neg hne,ho,hr,← hw]
  obtain⟨nk,nr,nf⟩:=now
  simp only at hk hne ⊢
  by_cases hf:nf=[]
  ·rw [if_pos hf] at hk
   simp [hf,hk,hne]
  ·rw [if_neg hf] at hk
   simp [hf,hk,hne]
theorem qkd:∀ (r:List (qa×Bool)) (k:Nat) (p:PSt) (prev:Bool) (now:ka) (rec:Int) (out:List ka),qvi r→Sim r p prev now rec out →
  refL k r prev now rec out=match (runL k r p).1 with
   |some e=>(some e,[])
   |none=>(none,(runL k r p).2.items)
 | [],k,p,prev,now,rec,out,_,h=>by
  rw [runL,qsm (h.flush rfl),h.close rfl,refL]
 |(t,e)::r,k,p,prev,now,rec,out,hE,h=>by
  rw [refL]
  by_cases h3:qy t=3
  ·by_cases hl:p.lines=[]
   ·have hp:prev=false:=by rw [h.hprev];simp [hl]
    have hw:wy prev t e r now.fields.length rec=2:=by
     unfold wy
     rw [if_pos (.inr (.inl ⟨h3,hp⟩))]
    rw [hw,if_pos (by decide),qez (x:=((k:Int),2)) (qpx (by unfold jn;rw [if_pos h3,if_pos hl]))]
   ·cases e with
    |true=>
     have hp:prev=true:=by rw [h.hprev];simp [hl]
     have hw:wy prev t true r now.fields.length rec=0:=by
      unfold wy
      rw [if_neg (by simp [hp];omega),if_pos (by omega)]
     have ht:=qkg (qp6 (no:=k) h3 hl) (by omega)
     rw [if_neg (by omega),if_neg (by omega)] at ht
     rw [hw,if_neg (by simp),if_neg (by omega),if_neg (by omega),qgr ht]
     have hm:=qgb (e:=true) (r:=r) h3
     have hok:=h.hok.resolve_left hl
     have hfs:=h.hfields
     rw [if_neg hl,hm] at hfs
     rw [hm] at hok
     refine qkd r (k+1) _ _ _ _ _ hE.2 ⟨by simp [h3],.inr (by simpa using hok),by rw [qlr,← h.hraw],by simp [hfs],h.hkind,h.hrec,h.hout,by simp,h.b1,h.b2⟩
    |false=>
     have hr:=hE.1 rfl
     subst hr
     have hw:wy prev t false [] now.fields.length rec=2:=by
      unfold wy
      rw [if_pos (.inr (.inr rfl))]
     have hok:=h.hok.resolve_left hl
     rw [qgb h3] at hok
     have hf:=qt1 (p:={ p with lines:=p.lines++[t] }) (.inr hok)
     rw [hw,if_pos (by decide),qez (x:=((k:Int),2)) (qpy ((qp5 h3 hl).trans hf) (.inr rfl))]
  ·have hm:=qk8 (e:=e) (r:=r) h3
   have hf:=h.flush hm
   have hc:=h.close hm
   by_cases hbad:qy t=5∨e=false
   ·have hw:wy prev t e r now.fields.length rec=2:=by
     unfold wy
     rw [if_pos (by rcases hbad with h|h;exact .inl h;exact .inr (.inr h))]
    rw [hw,if_pos (by decide)]
    by_cases h1:qy t=1
    ·rw [qez (x:=((k:Int),2)) (qpy ((qjb h1).trans (qsm hf)) hbad)]
    ·rw [qez (x:=((k:Int),2)) (qpy ((qf4 h3 h1).trans hf) hbad)]
   ·have he:e=true:=by
     cases e with
     |true=>rfl
     |false=>exact absurd (.inr rfl) hbad
    have h5:qy t≠5:=fun h=>hbad (.inl h)
    subst he
    by_cases h1:qy t=1
    ·have hw:wy prev t true r now.fields.length rec=0:=by
      unfold wy
      rw [if_neg (by simp [h3,h5]),if_pos (by omega)]
     have ht:=qkg ((qjb (no:=k) h1).trans (qsm hf)) h5
     rw [if_pos h1,hc] at ht
     rw [hw,if_neg (by simp),if_pos h1,qgr ht]
     exact qkd r (k+1) _ _ _ _ _ hE.2 ⟨by simp,.inl rfl,rfl,by simp,by simp,by simp,rfl,by simp,by simp,h.b2⟩
    ·by_cases h4:qy t=4
     ·have ht:=qkg ((qf4 (no:=k) h3 h1).trans hf) h5
      rw [if_neg h1,if_pos h4] at ht
      rw [qgr ht]
      have hb1:=h.b1
      have hb2:=h.b2
      have hrec:=h.hrec
      have hfull:(40≤now.fields.length∨(now.fields.length=0∧400≤rec))↔(now.fields.length=40∨(now.fields.length=0∧p.records=400)):=by
       by_cases hz:now.fields=[]
       ·rw [if_pos hz] at hrec
        simp only [hz,List.length_nil]
        constructor
        ·rintro (h'|h')
         ·exact absurd h' (by decide)
         ·exact .inr ⟨trivial,by omega⟩
        ·rintro (h'|h')
         ·exact absurd h' (by decide)
         ·exact .inr ⟨trivial,by omega⟩
       ·have:now.fields.length≠0:=fun h=>hz (List.length_eq_zero_iff.1 h)
        constructor
        ·rintro (h'|h')
         ·exact .inl (by omega)
         ·exact absurd h'.1 this
        ·rintro (h'|h')
         ·exact .inl (by omega)
         ·exact absurd h'.1 this
      have hw:wy prev t true r now.fields.length rec=qd0 (t::vh r) (decide (now.fields.length=40∨(now.fields.length=0∧p.records=400))):=by
       unfold wy qd0
       rw [if_neg (by simp [h3,h5]),if_neg (by omega)]
       by_cases hu:(zp (t::vh r)).2≠0
       ·rw [if_pos hu,if_pos hu]
       ·rw [if_neg hu,if_neg hu]
        by_cases hx:40≤now.fields.length∨(now.fields.length=0∧400≤rec)
        ·rw [if_pos hx,if_pos (decide_eq_true (hfull.1 hx))]
        ·rw [if_neg hx,if_neg (by simpa using fun h=>hx (hfull.2 h))]
      by_cases hw0:wy prev t true r now.fields.length rec=0
      ·rw [if_neg (by simp [hw0]),if_neg h1,if_pos h4]
       have hx:¬ (40≤now.fields.length∨(now.fields.length=0∧400≤rec)):=fun hx=>by
        unfold wy at hw0
        rw [if_neg (by simp [h3,h5]),if_neg (by omega)] at hw0
        by_cases hu:(zp (t::vh r)).2≠0
        ·rw [if_pos hu] at hw0;exact hu hw0
        ·rw [if_neg hu,if_pos hx] at hw0;simp at hw0
       rw [hw] at hw0
       refine qkd r (k+1) _ _ _ _ _ hE.2 ⟨by simp [km],.inr hw0,by simp only [km];rw [qlr,← h.hraw],by simp [km],by simp,?_,h.hout,by simp [km],by simp;omega,?_⟩
       ·have hkd:=h.hkind
        simp only [km]
        by_cases hz:now.fields=[]
        ·rw [if_pos hz] at hrec hkd
         rw [hkd]
         simp
         omega
        ·rw [if_neg hz] at hrec hkd
         rw [hkd]
         simp
         omega
       ·rw [h.hkind]
        by_cases hz:now.fields=[]
        ·have:now.fields.length=0:=by rw [hz];rfl
         rw [if_pos hz,if_pos rfl]
         omega
        ·rw [if_neg hz,if_neg (by decide)]
         exact hb2
      ·rw [if_pos hw0]
       have:=qyf r { km { p with lines:=[],fields:=now.fields } k t with block:=p.block++[t] } (k+1) (wy prev t true r now.fields.length rec) hE.2 (by simp [km]) hw.symm hw0
       simp only [km] at this ⊢
       rw [this]
     ·have hw:wy prev t true r now.fields.length rec=0:=by
       unfold wy
       rw [if_neg (by simp [h3,h5]),if_pos h4]
      have ht:=qkg ((qf4 (no:=k) h3 h1).trans hf) h5
      rw [if_neg h1,if_neg h4] at ht
      rw [hw,if_neg (by simp),if_neg h1,if_neg h4,qgr ht]
      exact qkd r (k+1) _ _ _ _ _ hE.2 ⟨by simp [h3],.inl rfl,by rw [qlr,← h.hraw],by simp,h.hkind,h.hrec,h.hout,by simp,h.b1,h.b2⟩
theorem qjo (text:qa):refL 0 (zr text) false ⟨2,[],[]⟩ 0 []=js text:=by
 unfold js
 exact qkd (zr text) 0 p0 false ⟨2,[],[]⟩ 0 [] (qor _ text (Nat.le_refl _)) ⟨by simp [p0],.inl rfl,rfl,by simp [p0],by simp,by simp [p0],rfl,by simp [p0],by simp,by omega⟩
end Go.Pl
namespace Go.Pl
open Go Go.Proofs Go.Proofs.YtneejjefekdgjaaGreatDoor
theorem qro {l b:qa} {n:Int} (h:zd l=(1,b,n)):xm b∧∃ m,l=recF b++m∧n=(recF b).length:=by
 unfold zd at h
 split at h
 ·rename_i h10
  split at h
  ·rename_i ho
   generalize hr:past 10 l=r at *
   have hl:=vk h10
   rw [hr] at hl
   generalize hu:upto 10 l=u at *
   have hop:u=vr (z6 u).1 (z6 u).2.1∧2≤(z6 u).1∧(z6 u).1≤50000:=by
    simp only [z6,decide_eq_true_eq] at ho ⊢
    obtain⟨o1,o2,o3,o4,o5⟩:=ho
    refine⟨?_,o3,yr _⟩
    obtain⟨t,rfl⟩:=o1
    rw [qhn] at *
    have:=qbo rfl (Nat.le_trans (by decide) o3)
    unfold vr
    rw [← this,← vk o2]
   generalize (z6 u).1=n at *
   generalize (z6 u).2.1=fig at *
   obtain⟨rfl,h2,hn⟩:=hop
   split at h
   ·unfold xh at h
    split at h <;> simp at h
   ·rename_i hge
    split at h
    ·rename_i hg
     have hlen:(r.take n).length=n:=by simp;omega
     unfold wg at h
     rw [hlen] at h
     split at h
     ·simp at h
     ·split at h
      ·rename_i hc
       obtain⟨⟨m,hm⟩,hs⟩:=hc
       simp only [Prod.mk.injEq,true_and] at h
       obtain⟨rfl,rfl⟩:=h
       refine⟨hg,m,?_,?_⟩
       ·rw [qkb,hlen,← hs,hl]
        unfold recL
        conv=>lhs;rw [← List.take_append_drop n r,← hm]
        simp
       ·rw [qjl _ hg,hlen]
      ·simp at h
    ·simp at h
  ·simp at h
 ·split at h <;> simp at h
theorem qss (s sub:qa) (i:Nat):Lib.occAt s sub i=true↔sub <+: s.drop i:=by
 unfold Lib.occAt
 rw [List.isPrefixOf_iff_prefix]
theorem zcx {a:qa} (r:qa) (h:10∉a):Lib.cut (a++10::10::r) [10,10]=(a,r,true):=by
 have hi:Lib.index (a++10::10::r) [10,10]=(a.length:Int):=by
  refine Lib.index_first (by simp) ?_ fun j hj=>?_
  ·rw [qss,List.drop_left]
   exact⟨r,rfl⟩
  ·cases hb:Lib.occAt (a++10::10::r) [10,10] j with
   |false=>rfl
   |true=>
    obtain⟨t,ht⟩:=(qss _ _ _).1 hb
    rw [List.drop_append_of_le_length (by omega)] at ht
    have:a.drop j≠[]:=by
     intro e
     have:=congrArg List.length e
     simp at this
     omega
    obtain⟨c,q,hq⟩:=List.exists_cons_of_ne_nil this
    rw [hq] at ht
    have h10:c=10:=by simpa using (List.cons.inj ht).1.symm
    exact absurd (List.mem_of_mem_drop (by rw [hq,h10];simp:(10:UInt8)∈a.drop j)) h
 unfold Lib.cut
 rw [hi,if_pos (by omega)]
 simp only [Int.toNat_natCast,List.take_left',List.length_cons,List.length_nil]
 rw [show a.length+(0+1+1)=(a++[10,10]).length by simp,show a++10::10::r=(a++[10,10])++r by simp,List.drop_left]
theorem q8d {l m:qa} (h:(Lib.cut l m).2.2=true):l=(Lib.cut l m).1++m++(Lib.cut l m).2.1:=by
 rcases Lib.index_spec l m with⟨h1,_⟩ | ⟨i,h1,h2,h3,_⟩
 ·unfold Lib.cut at h
  rw [h1,if_neg (by omega)] at h
  simp at h
 ·unfold Lib.cut
  rw [h1,if_pos (by omega)]
  simp only [Int.toNat_natCast]
  obtain⟨t,ht⟩:=(qss _ _ _).1 h3
  have e:l.drop (i+m.length)=t:=by rw [← List.drop_drop,← ht,List.drop_left]
  rw [e,List.append_assoc,ht,List.take_append_drop]
def genL:qa:=[35,37,103,101,110,32]
def x4 (n:Int):qa:=genL++Lib.itoa n++[10,10]
def wv (n:Int):Prop:=1≤n∧n≤2147483648
instance (n:Int):Decidable (wv n):=inferInstanceAs (Decidable (_∧_))
def vo (text:qa):Int×qa:=
 if genL <+: text then
  match numZ (upto 10 (text.drop 6)) with
  |some n=>if wv n∧[10,10] <+: text.drop (6+(upto 10 (text.drop 6)).length) then (n,text.drop (8+(upto 10 (text.drop 6)).length)) else (0,text)
  |none=>(0,text)
 else (0,text)
theorem qk2 (v:Int):(10:UInt8)∉Lib.itoa v:=by
 intro h
 by_cases hv:v<0
 ·rw [qek hv] at h
  rcases List.mem_cons.1 h with h|h
  ·simp at h
  ·have:=wn _ _ (Nat.le_refl _) _ h
   simp at this
 ·rw [qel (by omega)] at h
  have:=wn _ _ (Nat.le_refl _) _ h
  simp at this
theorem qk3 (n:Int) (r:qa):x4 n++r=genL++(Lib.itoa n++10::10::r):=by simp [x4]
theorem qlp {n:Int} (h:wv n) (r:qa):vo (x4 n++r)=(n,r):=by
 unfold vo
 have hd:(genL++(Lib.itoa n++10::10::r)).drop 6=Lib.itoa n++10::10::r:=by rw [show (6:Nat)=genL.length by rfl,List.drop_left]
 rw [qk3,if_pos (List.prefix_append _ _),hd,ve _ (qk2 n),qeu (by have:=h.1;omega) (by have:=h.2;omega)]
 have e1:(genL++(Lib.itoa n++10::10::r)).drop (6+(Lib.itoa n).length)=10::10::r:=by rw [← List.drop_drop,hd,List.drop_left]
 have e2:(genL++(Lib.itoa n++10::10::r)).drop (8+(Lib.itoa n).length)=r:=by
  rw [show 8+(Lib.itoa n).length=(6+(Lib.itoa n).length)+2 by omega,← List.drop_drop,e1]
  rfl
 simp only
 rw [e1,e2,if_pos ⟨h,r,rfl⟩]
theorem qnb {text:qa} (h:∀ n r,wv n→text≠x4 n++r):vo text=(0,text):=by
 unfold vo
 split
 ·rename_i hp
  obtain⟨t,rfl⟩:=hp
  have hd:(genL++t).drop 6=t:=by rw [show (6:Nat)=genL.length by rfl,List.drop_left]
  rw [hd]
  split
  ·rename_i n hn
   split
   ·rename_i hc
    obtain⟨hg,r,hr⟩:=hc
    rw [← List.drop_drop,hd] at hr
    obtain⟨he,_⟩:=qi6 hn
    refine absurd ?_ (h n r hg)
    rw [qk3,← he]
    congr 1
    conv=>lhs;rw [← List.take_append_drop (upto 10 t).length t,qe3,← hr]
    rfl
   ·rfl
  ·rfl
 ·rfl
theorem qoy (text:qa):(∃ n r,wv n∧text=x4 n++r∧vo text=(n,r))∨((∀ n r,wv n→text≠x4 n++r)∧vo text=(0,text)):=by
 by_cases h:∃ n r,wv n∧text=x4 n++r
 ·obtain⟨n,r,hg,rfl⟩:=h
  exact .inl ⟨n,r,hg,rfl,qlp hg r⟩
 ·have h':∀ n r,wv n→text≠x4 n++r:=fun n r hg e=>h ⟨n,r,hg,e⟩
  exact .inr ⟨h',qnb h'⟩
def wd (n:Int):qa:=if wv n then x4 n else []
theorem qgh (text:qa):text=wd (vo text).1++(vo text).2∧((vo text).1=0∨wv (vo text).1):=by
 rcases qoy text with⟨n,r,hg,he,ht⟩ | ⟨_,ht⟩
 ·rw [ht]
  simp only
  unfold wd
  rw [if_pos hg]
  exact⟨he,.inr hg⟩
 ·rw [ht]
  exact⟨rfl,.inl rfl⟩
theorem qt9 {n:Int} (h:wv n):(x4 n).length≤28:=by
 have:=qi0 (v:=n) (by have:=h.1;omega) (by have:=h.2;omega)
 simp [x4,genL]
 omega
def begF (l:qa):Bool:=decide (l.head? = some 37∧qy l=5)
def z1 (n:Nat) (l:qa):Nat:=if h:l=[] then n else if begF (upto 10 l)=true then n - l.length else z1 n (past 10 l)
 termination_by l.length
 decreasing_by exact wi h
theorem qdh (n:Nat):z1 n []=n:=by rw [z1,dif_pos rfl]
theorem qg7 {n:Nat} {l:qa} (h:l≠[]) (hb:begF (upto 10 l)=true):z1 n l=n - l.length:=by rw [z1,dif_neg h,if_pos hb]
theorem qio {n:Nat} {l:qa} (h:l≠[]) (hb:¬ begF (upto 10 l)=true):z1 n l=z1 n (past 10 l):=by
 conv=>lhs;rw [z1]
 rw [dif_neg h,if_neg hb]
theorem qme:∀ (k n:Nat) (l:qa),l.length≤k→l.length≤n→n - l.length≤z1 n l∧z1 n l≤n
 | 0,n,l,h,hn=>by
  have:l=[]:=List.length_eq_zero_iff.1 (by omega)
  subst this
  rw [qdh]
  simp
 |k+1,n,l,h,hn=>by
  by_cases hl:l=[]
  ·subst hl;rw [qdh];simp
  ·by_cases hb:begF (upto 10 l)=true
   ·rw [qg7 hl hb]
    omega
   ·have:=wi (c:=10) hl
    rw [qio hl hb]
    have:=qme k n (past 10 l) (by omega) (by omega)
    omega
theorem qqh:∀ (k n:Nat) (l x:qa),l.length≤k→(∀ p∈zr l,begF p.1=false∧p.2=true)→z1 n (l++x)=z1 n x
 | 0,n,l,x,h,_=>by
  have:l=[]:=List.length_eq_zero_iff.1 (by omega)
  subst this
  rfl
 |k+1,n,l,x,h,hp=>by
  by_cases hl:l=[]
  ·subst hl;rfl
  ·rw [wc hl] at hp
   obtain⟨h1,h2⟩:=hp _ (List.mem_cons_self ..)
   have h10:10∈l:=by simpa using h2
   have e:=vk h10
   have hu:upto 10 (l++x)=upto 10 l∧past 10 (l++x)=past 10 l++x:=by
    have e2:l++x=upto 10 l++10::(past 10 l++x):=by
     conv=>lhs;rw [e]
     simp
    rw [e2,ve _ (xp 10 l),wx _ (xp 10 l)]
    exact⟨rfl,rfl⟩
   rw [qio (by simp [hl]) (by rw [hu.1];simp [h1]),hu.2]
   exact qqh k n _ x (by have:=wi (c:=10) hl;omega) fun p hp'=>hp p (by simp [hp'])
theorem qhk:∀ (r:List (qa×Bool)) (k:Nat) (prev:Bool) (now:ka) (rec:Int) (out:List ka),(refL k r prev now rec out).1=none→∀ x∈r,qy x.1≠5∧x.2=true
 | [],_,_,_,_,_,_=>by simp
 |(t,e)::r,k,prev,now,rec,out,h=>by
  rw [refL] at h
  split at h
  ·simp at h
  ·rename_i hw
   have hx:qy t≠5∧e=true:=by
    unfold wy at hw
    split at hw
    ·simp at hw
    ·rename_i hc
     exact⟨fun h5=>hc (.inl h5),by cases e with|true=>rfl|false=>exact absurd (.inr (.inr rfl)) hc⟩
   have hr:∀ x∈r,qy x.1≠5∧x.2=true:=by
    split at h
    ·exact qhk r _ _ _ _ _ h
    ·split at h
     ·exact qhk r _ _ _ _ _ h
     ·exact qhk r _ _ _ _ _ h
   intro x hx'
   rcases List.mem_cons.1 hx' with rfl|hx'
   ·exact hx
   ·exact hr x hx'
theorem qz8 {text:qa} (h:(js text).1=none):∀ x∈zr text,begF x.1=false∧x.2=true:=fun x hx=>by
 rw [← qjo] at h
 obtain⟨h1,h2⟩:=qhk _ _ _ _ _ _ h x hx
 exact⟨by simp [begF,h1],h2⟩
theorem qin {n:Nat} {fig l:qa} (hf:wb fig) (h:l <+: vr n fig) (hne:l≠[]):begF l=true:=by
 have h10:10∉l:=qhr h (qbf n hf)
 have h58:(58:UInt8)∉l:=qhr h fun h'=>by
  unfold vr at h'
  rcases List.mem_append.1 h' with h'|h'
  ·revert h';decide
  ·rcases List.mem_append.1 h' with h'|h'
   ·exact qdn n (by decide) h'
   ·rcases List.mem_cons.1 h' with h'|h'
    ·simp at h'
    ·exact qmq hf (by decide) h'
 obtain⟨c,q,rfl⟩:=List.exists_cons_of_ne_nil hne
 have hc:c=37:=by
  obtain⟨t,ht⟩:=h
  unfold vr q6 at ht
  exact (List.cons.inj ht).1
 subst hc
 have hk:=qoq h10 (fun hb=>by
  have:=hb 37 (by simp)
  revert this
  decide)
 simp only [begF,List.head?_cons,true_and,decide_eq_true_eq]
 rw [hk.2]
 rw [if_neg (by simp),if_neg (by simp [vv]),if_neg (fun h=>h58 h.1)]
theorem q45 {n:Nat} {fig body l:qa} (hf:wb fig) (h:l <+: recL n fig body) (hne:l≠[]):begF (upto 10 l)=true:=by
 rcases qev (show l <+: vr n fig++10::(body++yc n) from h) with h | ⟨r,rfl,hr⟩
 ·rw [wm (qhr h (qbf n hf))]
  exact qin hf h hne
 ·cases r with
  |nil=>
   rw [List.append_nil,wm (qbf n hf)]
   exact qin hf (List.prefix_refl _) (by simp [vr,q6])
  |cons c r=>
   have:c=10:=by obtain⟨t,ht⟩:=hr;exact (List.cons.inj ht).1
   subst this
   rw [ve _ (qbf n hf)]
   exact qin hf (List.prefix_refl _) (by simp [vr,q6])
theorem za0 {b:qa} (x:qa) (hg:xm b):begF (upto 10 (recF b++x))=true:=by
 rw [qkb]
 have hx:wb (sumF b):=qoo (addP 0 b)
 unfold recL
 rw [List.append_assoc,List.cons_append,ve _ (qbf _ hx)]
 exact qin hx (List.prefix_refl _) (by simp [vr,q6])
theorem qrc:∀ (n:Nat) (l:qa) (k a:Nat),l.length≤n→∀ x∈ku k a l,x.text.length≤l.length
 |n,l,k,a,hn,x,hx=>by
  by_cases h:l=[]
  ·subst h;rw [y7] at hx;simp at hx
  ·have hlt:=wi (c:=10) h
   cases n with
   |zero=>omega
   |succ n=>
    rw [y9 h] at hx
    rcases List.mem_cons.1 hx with rfl|hx
    ·exact kv 10 l
    ·have:=qrc n (past 10 l) (k+1) (a+(upto 10 l).length+1) (by omega) x hx
     omega
theorem qvy {out:List qr} {e:qr} {f:Fld} (h:out[out.length - 1]? = some e):addF out f=out.set (out.length - 1) ⟨e.kind,e.id,e.fields++[f]⟩:=by
 have hl:out.getLast? = some e:=by rw [List.getLast?_eq_getElem?];exact h
 have hne:out≠[]:=fun e0=>by subst e0;simp at hl
 unfold addF
 rw [hl]
 have hd:=qog hl
 simp only
 generalize hq:out.dropLast=q at hd
 subst hd
 simp
theorem qn1 (out:List qr) (f:Fld):(addF out f).length=out.length:=by
 unfold addF
 cases h:out.getLast? with
 |none=>rfl
 |some x=>
  have hne:out≠[]:=fun e0=>by subst e0;simp at h
  have:=List.length_pos_iff.2 hne
  simp
  omega
def qvq (l:qa) (r:List qa) (o:List qr) (h:List qa):Option (List qr):=
 if [32,32] <+: l then if o=[] then none else kh r o (h++[l.drop 2])
 else match begR l with
  |none=>none
  |some (k,n)=>if 40≤o.length then none else kh r (o++[⟨k,n,[]⟩]) h
def qc3 (held:List qa):List qa→Bool
 | []=>decide (held≠[])
 |l::_=>decide (held≠[]∧¬ [32,32,32] <+: l)
def ql6 (R:List qa) (out:List qr) (held:List qa) (o:List qr) (h:List qa):Prop:=
 if qc3 held R=true then yh out held=some o∧h=[] else o=out∧h=held
theorem q2a {l:qa} {r:List qa} {out o:List qr} {held h:List qa} (e:ql6 (l::r) out held o h):kh (l::r) out held=qvq l r o h∧(h=[]∨[32,32,32] <+: l):=by
 unfold ql6 at e
 rw [kh]
 by_cases hc:held≠[]∧¬ [32,32,32] <+: l
 ·rw [if_pos (by simp [qc3,hc.1,hc.2])] at e
  rw [if_pos hc,e.1,e.2]
  exact⟨rfl,.inl rfl⟩
 ·rw [if_neg (by simpa [qc3] using hc)] at e
  rw [if_neg hc,e.1,e.2]
  refine⟨rfl,?_⟩
  by_cases h0:held=[]
  ·exact .inl h0
  ·exact .inr (Classical.byContradiction fun h=>hc ⟨h0,h⟩)
theorem qxe {R:List qa} {out:List qr} {held:List qa} (h:qc3 held R=true) (hu:(zp held).2≠0):kh R out held=none:=by
 cases R with
 |nil=>
  have h0:held≠[]:=of_decide_eq_true h
  rw [kh]
  unfold yh
  rw [if_neg h0,if_neg hu]
 |cons l q=>
  obtain⟨h0,hl⟩:held≠[]∧¬ [32,32,32] <+: l:=of_decide_eq_true h
  have hf:yh out held=none:=by unfold yh;rw [if_neg h0,if_neg hu]
  rw [kh,if_pos ⟨h0,hl⟩,hf]
  rfl
theorem qxf {out:List qr} {held:List qa} (h0:held≠[]) (hu:(zp held).2=0):yh out held=some (addF out (zp held).1):=by
 unfold yh
 rw [if_neg h0,if_pos hu]
def qho (l:qa):Nat→Option (Int×Int)
 | 0=>none
 |j+1=>tryR l (qho l j) ((j:Int)+1)
theorem q0r (l:qa):qho l 3=begR l:=rfl
end Go.Pl
namespace Go.Proofs.YtneejjefekdgjaaGreatDoor
open Go Go.Av Go.RowKit Go.Proofs Go.Pl
theorem qys (x:Option (List qr)):Pure (qb1 x):=by
 rcases x with _|b
 ·exact wl (qco _) (qx _)
 ·exact wl (qco _) (qx _)
theorem qyl (l w:qa) (b:Bool) (h:decide (w <+: l)=b) (st:List AObj):qn E 251 [Sv l,Sv w] st fun r st'=>r=Bv b∧st'=st:=h▸qjn l w st
def qkj (l:qa) (j:Nat) (a b:Int):Prop:=(a=0∧b=0∧qho l j=none)∨(1≤a∧qho l j=some (a,b))
set_option maxHeartbeats 8000000 in
theorem q0d (text:qa) (st:List AObj) (hl:text.length<1000000):qn E 180 [Sv text] st fun r st'=>r=qb1 (decF text)∧st'=st:=by
 refine jo [.s text] (qys _) Tryz.func180 rfl rfl (fun _=>rfl) rfl fun S0=>?_
 rw [← q6p]
 by_cases hbig:50000<text.length
 ·have hd:qb2 text=none:=if_pos hbig
  rw [hd]
  unfold qb1
  apply ql []
  repeat' (first|apply And.intro|(intro h;try exact cDd)|exact cSd|apply qg []|refine exr ?_|refine qp ?_)
 have hdf:qb2 text=match kh ((lns text).map fun x=>x.text) [] [] with
  |none=>none
  |some b=>if eErr b = .no∧encF b=text then some b else none:=if_neg hbig
 have hsp:=fun st=>qhl text st (by omega)
 have hlm:((lns text).map lnA).length=(lns text).length:=by simp
 have hln:(lns text).length≤text.length:=qb7 _ text 0 0 (Nat.le_refl _)
 have hll:=qrc _ text 0 0 (Nat.le_refl _)
 have hlt:∀ x∈lns text,x.text.length≤text.length:=hll
 have h0i:Lib.itoa 0=[48]:=by rw [qel (by decide),Lib.decDigits_one (by decide)];rfl
 generalize lns text=L at *
 clear hll
 apply ql []
 repeat' (first|apply And.intro|(intro h;try exact cDd)|exact⟨Tryz.call137⟩|refine cpe hsp ?_|exact cSd|apply qg []|refine exr ?_|refine qp ?_)
 refine vm (X:=Nat×List qr×List qa) (fun (k,out,held)=>⟨[(0,.s text),(4,.tp 0),(5,.tp 1),(6,.a (lnsA L)),(7,.i k)],[(0,some (.own 3 113 (out.map q8))),(1,some (.tip 1 9 (held.map fun x=>Sv x)))],2⟩)
  (fun (k,out,held)=>OutG out k∧out.length≤40∧held.length≤k∧k≤L.length+1∧(held≠[]→out≠[])∧(∀ s∈held,s.length<1000000) ∧
   ((k≤L.length∧kh ((L.map fun x=>x.text).drop k) out held=kh (L.map fun x=>x.text) [] [])∨(k=L.length+1∧kh (L.map fun x=>x.text) [] []=some out)))
  (fun (k,out,held)=>L.length+1 - k) (0,[],[]) ⟨by intro x hx;simp at hx,by simp,by simp,by omega,by simp,by simp,.inl ⟨by omega,rfl⟩⟩ ?_ ?_
 ·skip
  repeat' (first|apply And.intro|(intro h;try exact cDd)|exact cSd|apply qg []|refine exr ?_|refine qp ?_)
  all_goals (simp;done)
 ·rintro⟨k,out,held⟩ ⟨hG,h40,hh,hk,hne,hhb,hR⟩
  have hmo:(out.map q8).length=out.length:=by simp
  have hmh:(held.map fun x=>Sv x).length=held.length:=by simp
  rcases hR with⟨hk,hR⟩ | ⟨rfl,hR⟩
  ·have hun:=fun st=>qia held st ⟨by omega,hhb⟩
   unfold qbi at hun
   by_cases hkn:k=L.length
   ·-- the end: what is held is flushed
    rw [hkn,List.drop_of_length_le (by simp)] at hR
    by_cases h0:held=[]
    ·subst h0
     rw [kh] at hR
     unfold yh at hR
     rw [if_pos rfl] at hR
     apply ql []
     repeat' (first|apply And.intro|(intro h;try exact cDd)|(refine Exists.intro (k+1,out,[]) ⟨⟨hG.mono (by omega),h40,by simp,by omega,by simp,by simp,.inr ⟨by omega,hR.symm⟩⟩,by simp only;omega,?_⟩)|exact cSd|apply qg []|refine exr ?_|refine qp ?_)
     all_goals (simp;done)
    ·have hz:0<held.length:=List.length_pos_iff.2 h0
     have hop:0<out.length:=List.length_pos_iff.2 (hne h0)
     by_cases hu:(zp held).2=0
     ·have hgf:=qgi hu
      rw [kh,qxf h0 hu] at hR
      rw [hu] at hun
      generalize (zp held).1=f at hgf hun hR
      obtain⟨e,he⟩:∃ e,out[out.length - 1]? = some e:=⟨_,List.getElem?_eq_getElem (by omega)⟩
      have heA:(out.map q8)[out.length - 1]? = some (q8 e):=by simp [he]
      have hef:=(hG e (List.mem_of_getElem? he)).2.1
      have hmf:(e.fields.map fldA).length=e.fields.length:=by simp
      have hadd:=qvy (f:=f) he
      have hal:=qn1 out f
      obtain⟨fk,fv⟩:=f
      apply ql []
      repeat' (first|apply And.intro|(intro h;try exact cDd)|exact⟨Tryz.call140⟩|refine cpe hun ?_|(refine qpn (i:=out.length - 1) rfl rfl rfl (congrArg (fun x=>some (IntKind.i64,x)) (by omega)) rfl rfl (by omega) ?_)|(refine qpo (i:=out.length - 1) (j:=2) rfl rfl rfl rfl heA rfl rfl ?_)|(refine qla (i:=out.length - 1) (j:=2) (z:=q8 e) (z':=.ag [Iv e.kind,Iv e.id,.sl 2 (e.fields.map fldA++[fldA (fk,fv)]) none]) (u:=.sl 2 (e.fields.map fldA++[fldA (fk,fv)]) none) rfl rfl rfl rfl rfl rfl heA rfl rfl ?_)|(refine Exists.intro (k+1,addF out (fk,fv),[]) ⟨⟨qvx hG hgf,by omega,by simp,by omega,by simp,by simp,.inr ⟨by omega,hR.symm⟩⟩,by simp only;omega,?_⟩)|exact cSd|apply qg []|refine exr ?_|refine qp ?_)
      all_goals first|(simp;done)|(rw [hadd,List.map_set];simp [q8,jj,List.map_append];done)
     ·have hnn:qb2 text=none:=by
       rw [hdf,← hR,kh]
       unfold yh
       rw [if_neg h0,if_neg hu]
      rw [hnn]
      unfold qb1
      generalize (zp held).2=n at hun hu
      generalize (zp held).1=f at hun
      obtain⟨fk,fv⟩:=f
      apply ql []
      repeat' (first|apply And.intro|(intro h;try exact cDd)|exact⟨Tryz.call140⟩|refine cpe hun ?_|exact cSd|apply qg []|refine exr ?_|refine qp ?_)
   ·-- a line
    obtain⟨x,hx⟩:∃ x,L[k]? = some x:=⟨_,List.getElem?_eq_getElem (by omega)⟩
    have hxm:(L.map lnA)[k]? = some (lnA x):=by simp [hx]
    have hxl:=hlt x (List.mem_of_getElem? hx)
    have hdr:(L.map fun x=>x.text).drop k=x.text::(L.map fun x=>x.text).drop (k+1):=by
     rw [List.drop_eq_getElem_cons (by simp;omega)]
     obtain⟨_,h⟩:=List.getElem?_eq_some_iff.1 hx
     simp [h]
    rw [hdr] at hR
    have hb3:=fun st=>qjn x.text [32,32,32] st
    have hb2:=fun st=>qjn x.text [32,32] st
    have hpre:[32,32,32] <+: x.text→[32,32] <+: x.text:=fun ⟨q,hq⟩=>⟨[32]++q,by rw [← hq];rfl⟩
    have hmain:qb2 text=none∧(held≠[]∧¬ [32,32,32] <+: x.text∧(zp held).2≠0)∨∃ (o:List qr) (h:List qa),(qvq x.text ((L.map fun x=>x.text).drop (k+1)) o h=kh (L.map fun x=>x.text) [] []∧(h=[]∨[32,32,32] <+: x.text))∧OutG o (k+1)∧o.length≤40∧h.length≤k∧(h≠[]→o≠[])∧(∀ s∈h,s.length<1000000) ∧
      ((o=out∧h=held∧held=[])∨(o=out∧h=held∧0<held.length∧[32,32,32] <+: x.text)∨(h=[]∧0<held.length∧¬ [32,32,32] <+: x.text∧∃ (e:qr) (fk fv:qa),(out.map q8)[out.length - 1]? = some (q8 e)∧e.fields.length≤k∧o=out.set (out.length - 1) ⟨e.kind,e.id,e.fields++[(fk,fv)]⟩∧0<out.length∧∀ st,qn E 140 [Ss held] st fun r st'=>r = .tu [fldA (fk,fv),Iv 0]∧st'=st)):=by
     have step:∀ (o:List qr) (h:List qa),ql6 (x.text::(L.map fun x=>x.text).drop (k+1)) out held o h→qvq x.text ((L.map fun x=>x.text).drop (k+1)) o h=kh (L.map fun x=>x.text) [] []∧(h=[]∨[32,32,32] <+: x.text):=fun o h e=>by
      obtain⟨g1,g2⟩:=q2a e
      exact⟨by rw [← g1,hR],g2⟩
     by_cases hfl:held≠[]∧¬ [32,32,32] <+: x.text
     ·have hf:qc3 held (x.text::(L.map fun x=>x.text).drop (k+1))=true:=by simp [qc3,hfl.1,hfl.2]
      by_cases hu:(zp held).2=0
      ·have hop:0<out.length:=List.length_pos_iff.2 (hne hfl.1)
       have hfo:=qxf (out:=out) hfl.1 hu
       have hgf:=qgi hu
       rw [hu] at hun
       obtain⟨e,he⟩:∃ e,out[out.length - 1]? = some e:=⟨_,List.getElem?_eq_getElem (by omega)⟩
       refine .inr ⟨addF out (zp held).1,[],step _ _ ?_,qvx hG hgf,by rw [qn1];exact h40,by simp,by simp,by simp,.inr (.inr ⟨rfl,List.length_pos_iff.2 hfl.1,hfl.2,e,_,_,by simp [he],(hG e (List.mem_of_getElem? he)).2.1,qvy he,hop,hun⟩)⟩
       unfold ql6
       rw [if_pos hf]
       exact⟨hfo,rfl⟩
      ·exact .inl ⟨by rw [hdf,← hR,qxe hf hu],hfl.1,hfl.2,hu⟩
     ·have hf:¬ qc3 held (x.text::(L.map fun x=>x.text).drop (k+1))=true:=by simpa [qc3] using hfl
      refine .inr ⟨out,held,step _ _ ?_,hG.mono (by omega),h40,hh,hne,hhb,?_⟩
      ·unfold ql6
       rw [if_neg hf]
       exact⟨rfl,rfl⟩
      ·by_cases h0:held=[]
       ·exact .inl ⟨rfl,rfl,h0⟩
       ·exact .inr (.inl ⟨rfl,rfl,List.length_pos_iff.2 h0,Classical.byContradiction fun h=>hfl ⟨h0,h⟩⟩)
    rcases hmain with⟨hnn,h0,hp3,hu⟩ | ⟨o,h,⟨hst,hh0⟩,hG',h40',hh',hne',hhb',hcase⟩
    ·have hz:0<held.length:=List.length_pos_iff.2 h0
     rw [decide_eq_false hp3] at hb3
     rw [hnn]
     unfold qb1
     generalize (zp held).2=n at hun hu
     generalize (zp held).1=f at hun
     obtain⟨fk,fv⟩:=f
     apply ql []
     repeat' (first|apply And.intro|(intro h;try exact cDd)|(refine Exists.intro (k) ⟨by omega,_,hxm,?_⟩)|exact⟨Tryz.call251⟩|refine cpe hb3 ?_|exact⟨Tryz.call140⟩|refine cpe hun ?_|exact cSd|apply qg []|refine exr ?_|refine qp ?_)
    clear hR hG h40 hh hne hhb
    unfold qvq at hst
    have hmo':(o.map q8).length=o.length:=by simp
    have hmh':(h.map fun x=>Sv x).length=h.length:=by simp
    by_cases h2:[32,32] <+: x.text
    ·have h2l:2≤x.text.length:=h2.length_le
     rw [decide_eq_true h2] at hb2
     rw [if_pos h2] at hst
     by_cases ho:o=[]
     ·rw [if_pos ho] at hst
      have hnn:qb2 text=none:=by rw [hdf,← hst]
      rw [hnn]
      unfold qb1
      rcases hcase with⟨rfl,rfl,h0⟩ | ⟨rfl,rfl,h0,hp3⟩ | ⟨_,_,_,_,_,_,_,_,e,h0,_⟩
      ·have hz:h.length=0:=by simp [h0]
       have hz2:o.length=0:=by simp [ho]
       apply ql []
       repeat' (first|apply And.intro|(intro h;try exact cDd)|(refine Exists.intro (k) ⟨by omega,_,hxm,?_⟩)|exact⟨Tryz.call251⟩|refine cpe hb2 ?_|exact cSd|apply qg []|refine exr ?_|refine qp ?_)
      ·have hz2:o.length=0:=by simp [ho]
       rw [decide_eq_true hp3] at hb3
       apply ql []
       repeat' (first|apply And.intro|(intro h;try exact cDd)|(refine Exists.intro (k) ⟨by omega,_,hxm,?_⟩)|exact⟨Tryz.call251⟩|refine cpe hb3 ?_|exact⟨Tryz.call251⟩|refine cpe hb2 ?_|exact cSd|apply qg []|refine exr ?_|refine qp ?_)
      ·exact absurd (congrArg List.length (ho.symm.trans e)) (by simp;omega)
     ·rw [if_neg ho] at hst
      have hz2:0<o.length:=List.length_pos_iff.2 ho
      have hhs:∀ s∈h++[x.text.drop 2],s.length<1000000:=fun s hs=>by
       rcases List.mem_append.1 hs with hs|hs
       ·exact hhb' s hs
       ·obtain rfl:=List.mem_singleton.1 hs
        rw [List.length_drop]
        omega
      obtain⟨hn,hhn⟩:∃ hn,hn=h++[x.text.drop 2]:=⟨_,rfl⟩
      have hnl:hn.length≤k+1:=by rw [hhn];simp;omega
      rw [← hhn] at hst hhs
      rcases hcase with⟨rfl,rfl,h0⟩ | ⟨rfl,rfl,h0,hp3⟩ | ⟨rfl,h0,hp3,e,fk,fv,heA,hef,hadd,hop,hun'⟩
      case' neg.inl=>have hz:h.length=0:=by simp [h0]
      case' neg.inr.inl=>rw [decide_eq_true hp3] at hb3
      case' neg.inr.inr=>
       rw [decide_eq_false hp3] at hb3
       have hmf:(e.fields.map fldA).length=e.fields.length:=by simp
       have hol:out.length=o.length:=by rw [hadd,List.length_set]
       have hsl:((out.map q8).set (out.length - 1) (.ag [Iv e.kind,Iv e.id,.sl 2 (e.fields.map fldA++[fldA (fk,fv)]) none])).length=o.length:=by simp [hol]
      all_goals
       apply ql []
       repeat' (first|apply And.intro|(intro h;try exact cDd)|(refine Exists.intro (k) ⟨by omega,_,hxm,?_⟩)|exact⟨Tryz.call251⟩|refine cpe hb3 ?_|exact⟨Tryz.call251⟩|refine cpe hb2 ?_|exact⟨Tryz.call140⟩|refine cpe hun' ?_|(refine qpn (i:=out.length - 1) rfl rfl rfl (congrArg (fun x=>some (IntKind.i64,x)) (by omega)) rfl rfl (by omega) ?_)|(refine qpo (i:=out.length - 1) (j:=2) rfl rfl rfl rfl heA rfl rfl ?_)|(refine qla (i:=out.length - 1) (j:=2) (z:=q8 e) (z':=.ag [Iv e.kind,Iv e.id,.sl 2 (e.fields.map fldA++[fldA (fk,fv)]) none]) (u:=.sl 2 (e.fields.map fldA++[fldA (fk,fv)]) none) rfl rfl rfl rfl rfl rfl heA rfl rfl ?_)|(refine Exists.intro (k+1,o,hn) ⟨⟨hG',h40',hnl,by omega,fun _=>ho,hhs,.inl ⟨by omega,hst⟩⟩,by simp only;omega,?_⟩)|exact cSd|apply qg []|refine exr ?_|refine qp ?_)
       all_goals first|(simp [hhn];done)|(rw [hadd,List.map_set];simp [q8,jj,List.map_append];done)
    ·rw [decide_eq_false h2] at hb2
     rw [if_neg h2] at hst
     obtain rfl:h=[]:=hh0.resolve_right fun q=>h2 (hpre q)
     rcases hcase with⟨rfl,rfl,h0⟩ | ⟨_,_,_,hp3⟩ | ⟨_,h0,hp3,e,fk,fv,heA,hef,hadd,hop,hun'⟩
     case neg.inr.inl=>exact absurd (hpre hp3) h2
     case' neg.inr.inr=>
      rw [decide_eq_false hp3] at hb3
      have hmf:(e.fields.map fldA).length=e.fields.length:=by simp
      have hol:out.length=o.length:=by rw [hadd,List.length_set]
      have hsl:((out.map q8).set (out.length - 1) (.ag [Iv e.kind,Iv e.id,.sl 2 (e.fields.map fldA++[fldA (fk,fv)]) none])).length=o.length:=by simp [hol]
     all_goals
      apply ql []
      repeat' (first|apply And.intro|(intro h;try exact cDd)|(refine Exists.intro (k) ⟨by omega,_,hxm,?_⟩)|exact⟨Tryz.call251⟩|refine cpe hb3 ?_|exact⟨Tryz.call251⟩|refine cpe hb2 ?_|exact⟨Tryz.call140⟩|refine cpe hun' ?_|(refine qpn (i:=out.length - 1) rfl rfl rfl (congrArg (fun x=>some (IntKind.i64,x)) (by omega)) rfl rfl (by omega) ?_)|(refine qpo (i:=out.length - 1) (j:=2) rfl rfl rfl rfl heA rfl rfl ?_)|(refine qla (i:=out.length - 1) (j:=2) (z:=q8 e) (z':=.ag [Iv e.kind,Iv e.id,.sl 2 (e.fields.map fldA++[fldA (fk,fv)]) none]) (u:=.sl 2 (e.fields.map fldA++[fldA (fk,fv)]) none) rfl rfl rfl rfl rfl rfl heA rfl rfl ?_)|exact cSd|apply qg []|refine exr ?_|refine qp ?_)
      refine vm (X:=Nat×Int×Int) (fun (j,a,b)=>⟨[(0,.s text),(4,.tp 0),(5,.tp 1),(6,.a (lnsA L)),(7,.i k),(11,.s x.text),(12,.bx 2 0),(13,.i ((j:Int)+1))],[(0,some (.own 3 113 (o.map q8))),(1,some (.tip 1 9 [])),(2,some (.cells 113 [.i a,.i b,.a zu]))],3⟩)
       (fun (j,a,b)=>j≤3∧qkj x.text j a b) (fun (j,_,_)=>3 - j) (0,0,0) ⟨by omega,.inl ⟨rfl,rfl,rfl⟩⟩ ?_ ?_
      ·skip
       repeat' (first|apply And.intro|(intro h;try exact cDd)|exact cSd|apply qg []|refine exr ?_|refine qp ?_)
       all_goals first|(simp;done)|(rw [hadd,List.map_set];simp [q8,jj,List.map_append];done)
      ·rintro⟨j,a,b⟩ ⟨hj,hta⟩
       by_cases hj3:j=3
       ·subst hj3
        unfold qkj at hta
        rw [q0r] at hta
        rcases hta with⟨rfl,rfl,hb⟩ | ⟨ha,hb⟩
        ·rw [hb] at hst
         have hnn:qb2 text=none:=by rw [hdf,← hst]
         rw [hnn]
         unfold qb1
         apply ql []
         repeat' (first|apply And.intro|(intro h;try exact cDd)|exact cSd|apply qg []|refine exr ?_|refine qp ?_)
        ·rw [hb] at hst
         simp only at hst
         by_cases h40o:40≤o.length
         ·rw [if_pos h40o] at hst
          have hnn:qb2 text=none:=by rw [hdf,← hst]
          rw [hnn]
          unfold qb1
          apply ql []
          repeat' (first|apply And.intro|(intro h;try exact cDd)|exact cSd|apply qg []|refine exr ?_|refine qp ?_)
         ·rw [if_neg h40o] at hst
          have hG2:OutG (o++[⟨a,b,[]⟩]) (k+1):=fun y hy=>by
           rcases List.mem_append.1 hy with hy|hy
           ·exact hG' y hy
           ·obtain rfl:=List.mem_singleton.1 hy
            exact⟨by simp,by simp,q43 hb⟩
          apply ql []
          repeat' (first|apply And.intro|(intro h;try exact cDd)|(refine q3p (ys:=[q8 ⟨a,b,[]⟩]) rfl rfl rfl rfl rfl rfl rfl rfl (by simp;omega) rfl ?_)|(refine Exists.intro (k+1,o++[⟨a,b,[]⟩],[]) ⟨⟨hG2,by simp;omega,by simp,by omega,by simp,by simp,.inl ⟨by omega,hst⟩⟩,by simp only;omega,?_⟩)|exact cSd|apply qg []|refine exr ?_|refine qp ?_)
          all_goals (simp;done)
       ·obtain⟨H,hH⟩:∃ H,H=x9 ((j:Int)+1):=⟨_,rfl⟩
        have hj012:j=0∨j=1∨j=2:=by omega
        have hHl:H.length≤9:=by
         rw [hH]
         rcases hj012 with rfl|rfl|rfl <;> decide
        have hli:∀ st,qn E 181 [q8 ⟨(j:Int)+1,0,[]⟩] st fun r st'=>r=Sv (H++[48])∧st'=st:=fun st=>by
         have:=qun ⟨(j:Int)+1,0,[]⟩ st (by simp) (by simp)
         unfold jz at this
         rw [if_pos (by constructor <;> simp only <;> omega),h0i,← hH] at this
         exact this
        have htk:(H++[48]).take H.length=H:=List.take_left
        have htr:qho x.text (j+1)=tryR x.text (qho x.text j) ((j:Int)+1):=rfl
        unfold tryR at htr
        rw [← hH] at htr
        have htr2:(if H <+: x.text then match numZ (x.text.drop H.length) with
         |some n=>some ((j:Int)+1,n)
         |none=>qho x.text j else qho x.text j)=qho x.text (j+1):=htr.symm
        by_cases hp:H <+: x.text
        ·rw [if_pos hp] at htr2
         have hpl:=hp.length_le
         have hbH:=fun st=>qyl x.text ((H++[48]).take H.length) true (by rw [htk];exact decide_eq_true hp) st
         cases hz:numZ (x.text.drop H.length) with
         |none=>
          rw [hz] at htr2
          have hnu:∀ st,qn E 145 [Sv (x.text.drop H.length)] st fun r st'=>r = .tu [Iv 0,Bv false]∧st'=st:=fun st=>qfj _ st (by simp;omega) hz
          have hta':qkj x.text (j+1) a b:=by unfold qkj at hta ⊢;rw [← htr2];exact hta
          apply ql []
          repeat' (first|apply And.intro|(intro h;try exact cDd)|exact⟨Tryz.call181⟩|refine cpe hli ?_|(refine Exists.intro H.length ⟨by simp,?_⟩)|exact⟨Tryz.call251⟩|refine cpe hbH ?_|exact⟨Tryz.call145⟩|refine cpe hnu ?_|(refine Exists.intro (j+1,a,b) ⟨⟨by omega,hta'⟩,by simp only;omega,?_⟩)|exact cSd|apply qg []|refine exr ?_|refine qp ?_)
          all_goals first|(simp [htk];done)|(simp [htk];omega)|omega
         |some n=>
          rw [hz] at htr2
          have hnu:∀ st,qn E 145 [Sv (x.text.drop H.length)] st fun r st'=>r = .tu [Iv n,Bv true]∧st'=st:=fun st=>qc8 _ n st (by simp;omega) hz
          have hta':qkj x.text (j+1) ((j:Int)+1) n:=.inr ⟨by omega,htr2.symm⟩
          apply ql []
          repeat' (first|apply And.intro|(intro h;try exact cDd)|exact⟨Tryz.call181⟩|refine cpe hli ?_|(refine Exists.intro H.length ⟨by simp,?_⟩)|exact⟨Tryz.call251⟩|refine cpe hbH ?_|exact⟨Tryz.call145⟩|refine cpe hnu ?_|(refine Exists.intro (j+1,(j:Int)+1,n) ⟨⟨by omega,hta'⟩,by simp only;omega,?_⟩)|exact cSd|apply qg []|refine exr ?_|refine qp ?_)
          all_goals first|(simp [htk];done)|(simp [htk];omega)|omega
        ·rw [if_neg hp] at htr2
         have hbH:=fun st=>qyl x.text ((H++[48]).take H.length) false (by rw [htk];exact decide_eq_false hp) st
         have hta':qkj x.text (j+1) a b:=by unfold qkj at hta ⊢;rw [← htr2];exact hta
         apply ql []
         repeat' (first|apply And.intro|(intro h;try exact cDd)|exact⟨Tryz.call181⟩|refine cpe hli ?_|(refine Exists.intro H.length ⟨by simp,?_⟩)|exact⟨Tryz.call251⟩|refine cpe hbH ?_|(refine Exists.intro (j+1,a,b) ⟨⟨by omega,hta'⟩,by simp only;omega,?_⟩)|exact cSd|apply qg []|refine exr ?_|refine qp ?_)
         all_goals first|(simp [htk];done)|(simp [htk];omega)|omega
  ·have hB:=q6d hG (by omega)
   rw [hR] at hdf
   simp only at hdf
   have hck:=fun st=>qm6 out st hB (by omega)
   by_cases he:eErr out = .no
   ·have hen:=fun st=>ql2 out st hB he
    rw [he] at hck
    by_cases ht:encF out=text
    ·rw [if_pos ⟨he,ht⟩] at hdf
     rw [hdf]
     rw [ht] at hen
     refine qsx 4 rfl rfl ?_
     apply ql []
     repeat' (first|apply And.intro|(intro h;try exact cDd)|exact⟨Tryz.call96⟩|refine cpe hck ?_|exact⟨Tryz.call106⟩|refine cpe hen ?_|exact cSd|apply qg []|refine exr ?_|refine qp ?_)
    ·rw [if_neg (fun h=>ht h.2)] at hdf
     rw [hdf]
     unfold qb1
     refine qsx 4 rfl rfl ?_
     apply ql []
     repeat' (first|apply And.intro|(intro h;try exact cDd)|exact⟨Tryz.call96⟩|refine cpe hck ?_|exact⟨Tryz.call106⟩|refine cpe hen ?_|exact absurd ht (by assumption)|exact cSd|apply qg []|refine exr ?_|refine qp ?_)
   ·rw [if_neg (fun h=>he h.1)] at hdf
    rw [hdf]
    have h0:¬ (eErr out).code=0:=fun h=>he ((qc1 out).1 h)
    generalize (eErr out).code=c at hck h0
    generalize (eErr out).pos=c2 at hck
    unfold qb1
    refine qsx 4 rfl rfl ?_
    apply ql []
    repeat' (first|apply And.intro|(intro h;try exact cDd)|exact⟨Tryz.call96⟩|refine cpe hck ?_|exact cSd|apply qg []|refine exr ?_|refine qp ?_)
end Go.Proofs.YtneejjefekdgjaaGreatDoor
namespace Go.Pl
open Go Go.Proofs Go.Proofs.YtneejjefekdgjaaGreatDoor
structure xz where
 gen:Int
 base:qa
 batches:List (List qr)
 ends : List Int
 tail:qa
def qa9:xz:=⟨0,[],[],[],[]⟩
def vp (text:qa):ErrV:=if 60000<text.length then .num 1 else match (js text).1 with
 |none=>.no
 |some (a,n)=>.at' a n
def recsF:Nat→qa→Int→List (List qr)→List Int→Bool×List (List qr)×List Int×qa
 | 0,l,_,bs,es=>(false,bs,es,l)
 |f+1,l,a,bs,es=>
  if (zd l).1=2 then (false,bs,es,l)
  else if (zd l).1=1 then match decF (zd l).2.1 with
   |some b=>recsF f (l.drop (zd l).2.2.toNat) (a+(zd l).2.2) (bs++[b]) (es++[a+(zd l).2.2])
   |none=>(true,bs,es,l)
  else (true,bs,es,l)
def qbj (text:qa):qa:=(vo text).2
def atH (text:qa):Nat:=z1 (qbj text).length (qbj text)
def qd8 (text:qa):qa:=(qbj text).take (atH text)
def qci (text:qa):Bool×List (List qr)×List Int×qa:=recsF (text.length+1) ((qbj text).drop (atH text)) (((text.length - (qbj text).length+atH text:Nat)):Int) [] []
def kg (text:qa):ErrV×xz:=
 if 120000<text.length then (.num 1,qa9)
 else match vp (qd8 text) with
  | .no=>if (qci text).1=true then (.at' (qci text).2.1.length 10,qa9) else (.no,⟨(vo text).1,qd8 text,(qci text).2.1,(qci text).2.2.1,(qci text).2.2.2⟩)
  |e=>(e,qa9)
structure qdd (b:List qr):Prop where
 ok:eErr b = .no
 B:∀ x∈b,EdB x
 len:(encF b).length≤50000
theorem qdd.dec {b:List qr} (h:qdd b):decF (encF b)=some b:=q04 h.ok h.B h.len
theorem qdd.good {b:List qr} (h:qdd b):xm (encF b):=q5j h.ok h.B h.len
theorem q8r {t:qa} {b:List qr} (h:decF t=some b):qdd b∧encF b=t:=by
 obtain⟨h1,h2,h3⟩:=qwy h
 exact⟨⟨h1,q5b h,by rw [h2];exact h3⟩,h2⟩
def recE (b:List qr):qa:=recF (encF b)
def we (bs:List (List qr)):qa:=bs.flatMap recE
def y5 (a:Int):List (List qr)→List Int
 | []=>[]
 |b::r=>(a+(recE b).length)::y5 (a+(recE b).length) r
theorem qbh (b:List qr) (r:List (List qr)):we (b::r)=recE b++we r:=rfl
theorem q3v (r:List (List qr)) (b:List qr):we (r++[b])=we r++recE b:=by simp [we]
theorem qqw:∀ (r:List (List qr)) (a:Int) (b:List qr),y5 a (r++[b])=y5 a r++[a+(we r).length+(recE b).length]
 | [],a,b=>by simp [y5,we]
 |x::r,a,b=>by
  rw [List.cons_append,y5,y5,qqw r,qbh]
  simp
  omega
theorem qmk:∀ (r:List (List qr)) (a:Int),(y5 a r).length=r.length
 | [],_=>rfl
 |x::r,a=>by rw [y5];simp [qmk r]
theorem qqv:∀ (r:List (List qr)) (a:Int),r≠[]→(y5 a r).getLast? = some (a+(we r).length)
 | [],_,h=>absurd rfl h
 | [x],a,_=>by simp [y5,we]
 |x::y::r,a,_=>by
  have:=qqv (y::r) (a+(recE x).length) (by simp)
  rw [y5,List.getLast?_cons]
  rw [this,qbh x]
  simp
  omega
theorem qpr (b:List qr):0<(recE b).length:=by
 unfold recE
 rw [qkb]
 simp [recL,vr,q6]
theorem qyj:∀ (bs:List (List qr)) (f:Nat) (t:qa) (a:Int) (xs:List (List qr)) (es:List Int),(∀ b∈bs,qdd b)→(zd t).1=2→bs.length<f →
  recsF f (we bs++t) a xs es=(false,xs++bs,es++y5 a bs,t)
 | [],f+1,t,a,xs,es,_,ht,_=>by
  rw [recsF]
  simp only [we,List.flatMap_nil,List.nil_append,y5,List.append_nil]
  rw [if_pos ht]
 |b::r,f+1,t,a,xs,es,h,ht,hf=>by
  have hb:=h b (by simp)
  have hrd:zd (we (b::r)++t)=(1,encF b,((recE b).length:Int)):=by
   rw [qbh,List.append_assoc]
   exact q9o _ hb.good
  have hdr:(we (b::r)++t).drop (recE b).length=we r++t:=by
   rw [qbh,List.append_assoc,List.drop_left]
  rw [recsF,hrd]
  simp only
  rw [if_neg (by decide),if_pos trivial,hb.dec]
  simp only [Int.toNat_natCast]
  rw [hdr,qyj r f t _ _ _ (fun x hx=>h x (by simp [hx])) ht (by simp at hf;omega)]
  simp [y5]
theorem qyi:∀ (f:Nat) (l:qa) (a:Int) (xs xs':List (List qr)) (es es':List Int) (t:qa),l.length<f→recsF f l a xs es=(false,xs',es',t) →
  ∃ bs,l=we bs++t∧xs'=xs++bs∧es'=es++y5 a bs∧(∀ b∈bs,qdd b)∧(zd t).1=2
 | 0,l,a,xs,xs',es,es',t,hl,h=>absurd hl (by omega)
 |f+1,l,a,xs,xs',es,es',t,hl,h=>by
  rw [recsF] at h
  split at h
  ·rename_i h2
   simp only [Prod.mk.injEq,true_and] at h
   obtain⟨rfl,rfl,rfl⟩:=h
   exact⟨[],by simp [we],by simp,by simp [y5],by simp,h2⟩
  ·split at h
   ·rename_i h1
    split at h
    ·rename_i b hd
     obtain⟨hg,he⟩:=q8r hd
     have hrd:zd l=(1,(zd l).2.1,(zd l).2.2):=by rw [← h1]
     obtain⟨_,m,hm,hn⟩:=qro hrd
     rw [← he] at hm hn
     have hm':l=recE b++m:=hm
     have hn':(zd l).2.2=((recE b).length:Int):=hn
     have hpos:=qpr b
     have hlen:l.length=(recE b).length+m.length:=by rw [hm'];simp
     have hdr:l.drop (recE b).length=m:=by
      conv=>lhs;rw [hm']
      rw [List.drop_left]
     rw [hn',Int.toNat_natCast,hdr] at h
     obtain⟨bs,e1,e2,e3,e4,e5⟩:=qyi f m _ _ _ _ _ _ (by omega) h
     refine⟨b::bs,?_,by rw [e2];simp,by rw [e3];simp [y5],?_,e5⟩
     ·rw [qbh,List.append_assoc,← e1]
      exact hm'
     ·intro x hx
      rcases List.mem_cons.1 hx with rfl|hx
      ·exact hg
      ·exact e4 x hx
    ·simp at h
   ·simp at h
structure qaz (text:qa) (b:xz):Prop where
 txt:text=wd b.gen++(b.base++(we b.batches++b.tail))
 gen:vo text=(b.gen,b.base++(we b.batches++b.tail))
 parse:vp b.base = .no
 good:∀ x∈b.batches,qdd x
 tail:(zd b.tail).1=2
 ends : b.ends = y5 ((wd b.gen).length + b.base.length) b.batches
 len:text.length≤120000
def BegP (x:qa):Prop:=x=[]∨begF (upto 10 x)=true
theorem q42 {t:qa} (h:(zd t).1=2):BegP t:=by
 by_cases h0:t=[]
 ·exact .inl h0
 ·obtain⟨n,fig,body,R,hp,_⟩:=zbz h
  obtain⟨_,_,_,_,_,hx⟩:=R
  exact .inr (q45 hx hp h0)
theorem qtk {bs:List (List qr)} {t:qa} (hg:∀ b∈bs,qdd b) (h:(zd t).1=2):BegP (we bs++t):=by
 cases bs with
 |nil=>exact q42 h
 |cons b r=>
  refine .inr ?_
  rw [qbh,List.append_assoc]
  exact za0 _ (hg b (by simp)).good
theorem q41 {x:qa} (h:BegP x):x=[]∨x.head? = some 37:=by
 rcases h with h|h
 ·exact .inl h
 ·simp only [begF,decide_eq_true_eq] at h
  cases x with
  |nil=>exact .inl rfl
  |cons c r=>
   refine .inr ?_
   have h1:=h.1
   unfold upto at h1
   by_cases hc:c=10
   ·subst hc;simp at h1
   ·simpa [hc] using h1
theorem qm4 {l:qa} (h:vp l = .no):(∀ p∈zr l,begF p.1=false∧p.2=true)∧l.length≤60000:=by
 unfold vp at h
 split at h
 ·simp at h
 ·split at h
  ·rename_i hp
   exact⟨qz8 hp,by omega⟩
  ·simp at h
theorem q2n {l x:qa} (h:vp l = .no) (hx:BegP x):z1 (l++x).length (l++x)=l.length:=by
 rw [qqh _ _ l x (Nat.le_refl _) (qm4 h).1]
 rcases hx with rfl|hx
 ·rw [qdh];simp
 ·by_cases h0:x=[]
  ·subst h0;rw [qdh];simp
  ·rw [qg7 h0 hx]
   simp
theorem za2 {text:qa} {b:xz} (h:qaz text b):kg text=(.no,b):=by
 have hr:qbj text=b.base++(we b.batches++b.tail):=by unfold qbj;rw [h.gen]
 have ha:atH text=b.base.length:=by
  unfold atH
  rw [hr]
  exact q2n h.parse (qtk h.good h.tail)
 have hb:qd8 text=b.base:=by
  unfold qd8
  rw [ha,hr,List.take_left]
 have hl:text.length - (qbj text).length=(wd b.gen).length:=by
  rw [hr]
  conv=>lhs;rw [h.txt]
  simp
 have hc:qci text=(false,b.batches,b.ends,b.tail):=by
  unfold qci
  rw [hl,ha,hr,List.drop_left,qyj b.batches _ b.tail _ _ _ h.good h.tail]
  ·rw [h.ends]
   simp
  ·have:∀ bs:List (List qr),bs.length≤(we bs).length:=fun bs=>by
    induction bs with
    |nil=>simp
    |cons x r ih=>
     have:=qpr x
     rw [qbh]
     simp
     omega
   have:=this b.batches
   rw [h.txt]
   simp
   omega
 have hlen:=h.len
 unfold kg
 rw [if_neg (by omega),hb,h.parse,hc,h.gen]
 simp
theorem qwo {text:qa} {b:xz} (h:kg text=(.no,b)):qaz text b:=by
 unfold kg at h
 split at h
 ·simp at h
 ·rename_i hlen
  split at h
  ·rename_i hp
   split at h
   ·simp at h
   ·rename_i hc
    simp only [Prod.mk.injEq,true_and] at h
    subst h
    have hs:=qgh text
    have hle:atH text≤(qbj text).length:=(qme _ _ _ (Nat.le_refl _) (Nat.le_refl _)).2
    have hrl:(qbj text).length≤text.length:=by
     conv=>rhs;rw [hs.1]
     unfold qbj
     simp
    have hhl:text.length - (qbj text).length=(wd (vo text).1).length:=by
     have:text.length=(wd (vo text).1).length+(qbj text).length:=by
      conv=>lhs;rw [hs.1]
      unfold qbj
      simp
     omega
    have hq:qci text=(false,(qci text).2.1,(qci text).2.2.1,(qci text).2.2.2):=by
     have:(qci text).1=false:=by simpa using hc
     rw [← this]
    obtain⟨bs,e1,e2,e3,e4,e5⟩:=qyi _ _ _ _ _ _ _ _ (by simp;omega) (show recsF (text.length+1) _ _ _ _=_ from hq)
    simp only [List.nil_append] at e2 e3
    have hbl:(qd8 text).length=atH text:=by unfold qd8;simp;omega
    have hrest:qbj text=qd8 text++(we bs++(qci text).2.2.2):=by
     rw [← e1]
     unfold qd8
     rw [List.take_append_drop]
    refine⟨?_,?_,hp,?_,e5,?_,by omega⟩
    ·simp only
     rw [e2,← hrest]
     exact hs.1
    ·simp only
     rw [e2,← hrest]
     rfl
    ·simp only
     rw [e2]
     exact e4
    ·simp only
     rw [e2,e3,hbl,hhl]
     simp
  ·rename_i hp
   simp only [Prod.mk.injEq] at h
   exact absurd h.1 hp
def ye (b:xz):qa:=wd b.gen++(b.base++we b.batches)
def xy (b:xz):Int:=match b.ends.getLast? with
 |some e=>e
 |none=>((wd b.gen).length+b.base.length:Nat)
theorem qaz.split {text:qa} {b:xz} (h:qaz text b):text=ye b++b.tail:=by
 have:=h.txt
 unfold ye
 simpa using this
theorem qaz.whole {text:qa} {b:xz} (h:qaz text b):xy b=((ye b).length:Int):=by
 unfold xy
 rw [h.ends]
 by_cases h0:b.batches=[]
 ·rw [h0]
  simp [y5,ye,h0,we]
 ·rw [qqv _ _ h0]
  simp [ye]
  omega
theorem qaz.take {text:qa} {b:xz} (h:qaz text b):text.take (xy b).toNat=ye b:=by
 rw [h.whole,Int.toNat_natCast]
 conv=>lhs;rw [h.split]
 rw [List.take_left]
theorem q3b {l:qa} (h:l≠[]) (hp:∀ p∈zr l,p.2=true):l.getLast? = some 10:=by
 have:∀ (k:Nat) (l:qa),l.length≤k→l≠[]→(∀ p∈zr l,p.2=true)→l.getLast? = some 10:=by
  intro k
  induction k with
  |zero=>intro l hl h0;exact absurd (List.length_eq_zero_iff.1 (by omega)) h0
  |succ k ih=>
   intro l hl h0 hp
   rw [wc h0] at hp
   have h10:10∈l:=by simpa using hp _ (List.mem_cons_self ..)
   have e:=vk h10
   by_cases hq:past 10 l=[]
   ·rw [hq] at e
    rw [e]
    simp
   ·have:=ih (past 10 l) (by have:=wi (c:=10) h0;omega) hq fun p hp'=>hp p (by simp [hp'])
    rw [e]
    rw [List.getLast?_append,List.getLast?_cons,this]
    simp
 exact this _ l (Nat.le_refl _) h hp
theorem zbl {l x:qa} {n:Int} (h:∀ p∈zr l,p.2=true) (hx:x=[]∨x.head? = some 37) (hp:x4 n <+: l++x):x4 n <+: l:=by
 rcases qev hp with h1 | ⟨r,h1,hr⟩
 ·exact h1
 ·by_cases hr0:r=[]
  ·rw [h1,hr0,List.append_nil]
   exact List.prefix_refl _
  ·exfalso
   obtain⟨c,q,rfl⟩:=List.exists_cons_of_ne_nil hr0
   have hc:c=37:=by
    obtain⟨t,ht⟩:=hr
    rcases hx with rfl|hx
    ·simp at ht
    ·rw [← ht] at hx
     simpa using hx
   subst hc
   by_cases hl:l=[]
   ·rw [hl] at h1
    simp [x4,genL] at h1
   ·have hlast:=q3b hl h
    obtain⟨q0,hq0⟩:∃ q0,l=q0++[10]:=by
     have:=qog hlast
     exact⟨_,this.symm⟩
    have e:genL++Lib.itoa n++10::[10]=q0++10::(37::q):=by
     have:=h1
     unfold x4 at this
     rw [hq0] at this
     simpa using this
    have hu10:10∉genL++Lib.itoa n:=by
     intro h
     rcases List.mem_append.1 h with h|h
     ·revert h;decide
     ·exact qk2 n h
    have hA:=ve (c:=10) [10] hu10
    have hB:=wx (c:=10) [10] hu10
    rw [e] at hA hB
    by_cases hq10:10∈q0
    ·have e2:=vk hq10
     have e3:q0++10::(37::q)=upto 10 q0++10::(past 10 q0++10::(37::q)):=by
      conv=>lhs;rw [e2]
      simp
     rw [e3,wx _ (xp 10 q0)] at hB
     have:=congrArg List.length hB
     simp at this
     omega
    ·rw [wx _ hq10] at hB
     simp at hB
theorem q38 {l x y:qa} (h:∀ p∈zr l,p.2=true) (hx:vo (l++x)=(0,l++x)) (hy:y=[]∨y.head? = some 37):vo (l++y)=(0,l++y):=by
 refine qnb fun n r hg e=>?_
 obtain⟨t,ht⟩:=zbl (n:=n) h hy ⟨r,e.symm⟩
 have:vo (l++x)=(n,t++x):=by rw [← ht,List.append_assoc,qlp hg]
 rw [hx] at this
 have h0:(0:Int)=n:=(Prod.mk.inj this).1
 have:=hg.1
 omega
theorem qaz.gen0 {text:qa} {b:xz} (h:qaz text b):b.gen=0∨wv b.gen:=by
 have:=(qgh text).2
 rw [h.gen] at this
 exact this
theorem qaz.other {text:qa} {b:xz} (h:qaz text b) {bs:List (List qr)} {t:qa} (hg:∀ x∈bs,qdd x) (ht:(zd t).1=2) (hlen:(wd b.gen++(b.base++(we bs++t))).length≤120000) :
  qaz (wd b.gen++(b.base++(we bs++t))) ⟨b.gen,b.base,bs,y5 ((wd b.gen).length+b.base.length) bs,t⟩:=by
 refine⟨rfl,?_,h.parse,hg,ht,rfl,hlen⟩
 rcases h.gen0 with h0|h0
 ·have hgen:=h.gen
  have htext:=h.txt
  have e:wd b.gen=[]:=by unfold wd;rw [if_neg (by rw [h0];decide)]
  rw [e,List.nil_append] at htext ⊢
  rw [h0,htext] at hgen
  simp only
  rw [h0]
  exact q38 (fun p hp=>((qm4 h.parse).1 p hp).2) hgen (q41 (qtk hg ht))
 ·have e:wd b.gen=x4 b.gen:=by unfold wd;rw [if_pos h0]
  simp only
  rw [e,qlp h0]
theorem q9n:zd []=(2,[],0):=by
 unfold zd w9
 rw [if_neg (by simp),if_pos]
 rw [if_neg (by decide)]
 decide
theorem qaz.more {text:qa} {b:xz} (h:qaz text b) {x:List qr} (hx:qdd x) (hl:(ye b++recE x).length≤120000):qaz (ye b++recE x) { b with batches:=b.batches++[x],ends:=b.ends++[xy b+(recE x).length],tail:=[] }:=by
 have e:wd b.gen++(b.base++(we (b.batches++[x])++[]))=ye b++recE x:=by simp [ye,q3v]
 have:=h.other (bs:=b.batches++[x]) (t:=[]) (fun y hy=>by
  rcases List.mem_append.1 hy with hy|hy
  ·exact h.good y hy
  ·obtain rfl:=List.mem_singleton.1 hy
   exact hx) (by rw [q9n]) (by rw [e];exact hl)
 rw [e,qqw,← h.ends] at this
 have hw:((wd b.gen).length+b.base.length+(we b.batches).length+(recE x).length:Int)=xy b+(recE x).length:=by
  rw [h.whole]
  simp [ye]
  omega
 rw [hw] at this
 exact this
def appF (text:qa) (x:List qr):ErrV×qa:=
 match (kg text).1 with
 | .no=>match eErr x with
  | .no=>if 50000<(encF x).length then (.num 11,[]) else if 120000<xy (kg text).2+(recE x).length then (.num 11,[]) else (.no,text.take (xy (kg text).2).toNat++recE x)
  |e=>(e,[])
 |e=>(e,[])
end Go.Pl
namespace Go.Proofs.YtneejjefekdgjaaGreatDoor
open Go Go.Av Go.RowKit Go.Proofs Go.Pl
theorem qkx (n:Int) (st:List AObj) (h:wv n):qn E 75 [Iv n] st fun r st'=>r = .tu [Sv (x4 n),.v .nilIface]∧st'=st:=by
 have h1:=h.1
 have h2:=h.2
 have hl:=qi0 (v:=n) (by omega) (by omega)
 have hit:=fun st=>qmr n st (by omega) (by omega)
 refine jo [.i n] (wl (qx _) (qx _)) Tryz.func75 rfl rfl (fun _=>rfl) rfl fun S0=>?_
 apply ql []
 repeat' (first|apply And.intro|(intro h;try exact cDd)|exact⟨Tryz.call133⟩|refine cpe hit ?_|exact cSd|apply qg []|refine exr ?_|refine qp ?_)
 all_goals first|(simp;omega)|(simp [x4,genL];done)
theorem qxk (n:Int) (st:List AObj) (h:¬ wv n):qn E 75 [Iv n] st fun r st'=>r = .tu [Sv [],.ifc 62 (Iv 1)]∧st'=st:=by
 refine jo [.i n] (wl (qx _) (qch (qx _))) Tryz.func75 rfl rfl (fun _=>rfl) rfl fun S0=>?_
 unfold wv at h
 apply ql []
 repeat' (first|apply And.intro|(intro h;try exact cDd)|exact cSd|apply qg []|refine exr ?_|refine qp ?_)
theorem zc2 (n:Int) (st:List AObj):qn E 166 [Iv n] st fun r st'=>r=Iv ((wd n).length:Nat)∧st'=st:=by
 refine jo [.i n] (qx _) Tryz.func166 rfl rfl (fun _=>rfl) rfl fun S0=>?_
 by_cases hg:wv n
 ·have e:wd n=x4 n:=by unfold wd;rw [if_pos hg]
  have hln:=fun st=>qkx n st hg
  rw [e]
  apply ql []
  repeat' (first|apply And.intro|(intro h;try exact cDd)|exact⟨Tryz.call75⟩|refine cpe hln ?_|exact cSd|apply qg []|refine exr ?_|refine qp ?_)
 ·have e:wd n=[]:=by unfold wd;rw [if_neg hg]
  have hln:=fun st=>qxk n st hg
  rw [e]
  apply ql []
  repeat' (first|apply And.intro|(intro h;try exact cDd)|exact⟨Tryz.call75⟩|refine cpe hln ?_|exact cSd|apply qg []|refine exr ?_|refine qp ?_)
theorem q7g (l:qa) (st:List AObj):qn E 74 [Sv (genL++l),Sv [35,37,103,101,110,32]] st fun r st'=>r=Sv l∧st'=st:=by
 have:=qie (genL++l) [35,37,103,101,110,32] st
 rw [qcl (show [35,37,103,101,110,32] <+: genL++l from List.prefix_append genL l)] at this
 have e:(genL++l).drop ([35,37,103,101,110,32]:qa).length=l:=by rw [show ([35,37,103,101,110,32]:qa).length=genL.length by rfl,List.drop_left]
 rw [e] at this
 exact this
set_option maxHeartbeats 2000000 in
theorem zbm (text:qa) (st:List AObj) (hl:text.length<1000000):qn E 29 [Sv text] st fun r st'=>r = .tu [Iv (vo text).1,Sv (vo text).2]∧st'=st:=by
 refine qu (wl (qx _) (qx _)) (qo Tryz.func29 rfl (Nat.le_of_ble_eq_true rfl) ?_)
 rcases qoy text with⟨n,r,hg,he,ht⟩ | ⟨hno,ht⟩
 ·rw [ht]
  have hn10:10∉genL++Lib.itoa n:=fun h=>by
   rcases List.mem_append.1 h with h|h
   ·revert h;decide
   ·exact qk2 n h
  have hcut:∀ st,qn E 72 [Sv text,Sv [10,10]] st fun x st'=>x = .tu [Sv (genL++Lib.itoa n),Sv r,Bv true]∧st'=st:=fun st=>by
   have:=qqp text [10,10] st (by omega)
   rw [he,qk3,← List.append_assoc,zcx r hn10] at this
   rw [he,qk3,← List.append_assoc]
   exact this
  have hb:=qi0 (v:=n) (by have:=hg.1;omega) (by have:=hg.2;omega)
  have hgl:genL.length=6:=rfl
  have hat:=qko (v:=n) (by have:=hg.1;omega) (by have:=hg.2;omega)
  repeat' (first|apply qm|apply qd|apply qc|apply qi|apply qe|(apply q9;exact rfl;exact rfl)|(apply qf;exact Tryz.call72;exact hcut _)|(apply qf;exact Tryz.call74;exact q7g _ _))
  refine qeo Tryz.call73 ((qmc (Lib.itoa n) _ (by omega)).mono ?_)
  rintro _ _ ⟨rfl,n',x,rfl,hx⟩
  rcases x with _ | ⟨t',y⟩
  ·simp only at hx
   rw [hat] at hx
   have e:n=n':=by simpa using hx
   subst e
   show AOps _ _ _ _ _ _ _
   have hs:x4 n=(genL++Lib.itoa n)++[10,10]:=rfl
   have hs2:¬ x4 n≠(genL++Lib.itoa n)++[10,10]:=fun h=>h hs
   repeat' (first|apply qm|apply qd|apply qc|apply qi|apply qe|(apply q9;exact rfl;exact rfl)|(apply jg;(iterate 3 exact rfl))|(apply jd;exact rfl)|(apply qv;(iterate 4 exact rfl))|(apply yw;exact cRa)|(apply qei;exact cRa)|(apply qh;exact rfl;apply qec;exact cRa)|(apply qh;exact rfl;apply pk_f;exact cRa)|(apply qb;exact rfl;apply vw;exact cAo)|(apply jl;exact rfl;exact rfl;exact cOs)|(apply vt;exact rfl;exact rfl)|apply qw|apply qs|(apply qf;exact Tryz.call75;exact qkx _ _ hg))
   exact qk rfl (j5 rfl) ⟨rfl,_,rfl⟩
  ·exact absurd hat (hx n)
 ·rw [ht]
  have hfst:=qqq text [10,10]
  have hct:=fun h=>q8d (l:=text) (m:=[10,10]) h
  have htr:=qee (Lib.cut text [10,10]).1 [35,37,103,101,110,32]
  have hcc:=fun st=>qqp text [10,10] st (by omega)
  generalize Lib.cut text [10,10]=c at hfst hct htr hcc
  obtain⟨a,b,d⟩:=c
  simp only at hfst hct htr hcc
  repeat' (first|apply qm|apply qd|apply qc|apply qi|apply qe|(apply q9;exact rfl;exact rfl)|(apply qf;exact Tryz.call72;exact hcc _)|(apply qf;exact Tryz.call74;exact qie _ _ _))
  refine qeo Tryz.call73 ((qmc (Lib.trimPrefix a [35,37,103,101,110,32]) _ (by omega)).mono ?_)
  rintro _ _ ⟨rfl,n,x,rfl,hx⟩
  show AOps _ _ _ _ _ _ _
  have hbad:¬ (d=true∧wv n∧x4 n=a++[10,10]):=fun ⟨h1,h2,h3⟩=>by
   refine hno n b h2 ?_
   rw [h3]
   exact hct h1
  by_cases hg:wv n
  ·have hll:=qt9 hg
   cases d with
   |false=>
    rcases x with _ | ⟨t',y⟩
    all_goals
     repeat' (first|apply qm|apply qd|apply qc|apply qi|apply qe|(apply q9;exact rfl;exact rfl)|(apply jd;exact rfl)|(apply qv;(iterate 4 exact rfl))|(apply qbe;exact cRa)|(apply qak;exact cRa)|(apply qh;exact rfl;apply qhj;exact cRa)|(apply qh;exact rfl;apply pk_t;exact cRa)|(apply qb;exact rfl;apply cd_t;exact cRa)|apply qs|(apply qf;exact Tryz.call75;exact qkx _ _ hg))
     exact qk rfl (j5 rfl) ⟨rfl,_,rfl⟩
   |true=>
    have hne:x4 n≠a++[10,10]:=fun h=>hbad ⟨rfl,hg,h⟩
    rcases x with _ | ⟨t',y⟩
    all_goals
     repeat' (first|apply qm|apply qd|apply qc|apply qi|apply qe|(apply q9;exact rfl;exact rfl)|(apply jg;(iterate 3 exact rfl))|(apply jd;exact rfl)|(apply qv;(iterate 4 exact rfl))|(apply yw;exact cRa)|(apply qei;exact cRa)|(apply qak;exact cRa)|(apply qh;exact rfl;apply qec;exact cRa)|(apply qh;exact rfl;apply pk_t;exact cRa)|(apply qh;exact rfl;apply pk_f;exact cRa)|(apply qb;exact rfl;apply ki;exact cAo)|(apply qb;exact rfl;apply cd_t;exact cRa)|(apply jl;exact rfl;exact rfl;exact cOs)|(apply wz;exact rfl;exact rfl)|(apply vt;exact rfl;exact rfl)|apply qs|(apply qf;exact Tryz.call75;exact qkx _ _ hg))
     exact qk rfl (j5 rfl) ⟨rfl,_,rfl⟩
  ·cases d
   all_goals
    rcases x with _ | ⟨t',y⟩
    all_goals
     repeat' (first|apply qm|apply qd|apply qc|apply qi|apply qe|(apply q9;exact rfl;exact rfl)|(apply jd;exact rfl)|(apply qv;(iterate 4 exact rfl))|(apply yw;exact cRa)|(apply qbe;exact cRa)|(apply qei;exact cRa)|(apply qak;exact cRa)|(apply qh;exact rfl;apply qhj;exact cRa)|(apply qh;exact rfl;apply qec;exact cRa)|(apply qh;exact rfl;apply pk_t;exact cRa)|(apply qh;exact rfl;apply pk_f;exact cRa)|(apply qb;exact rfl;apply cd_t;exact cRa)|(apply wz;exact rfl;exact rfl)|(apply vt;exact rfl;exact rfl)|apply qs|(apply qf;exact Tryz.call75;exact qxk _ _ hg))
     exact qk rfl (j5 rfl) ⟨rfl,_,rfl⟩
theorem qgd (n:Int) (st:List AObj):qn E 244 [Iv n] st fun r st'=>r=Bv (decide (wv n))∧st'=st:=by
 refine qu (qx _) (qo Tryz.func244 rfl (Nat.le_of_ble_eq_true rfl) ?_)
 by_cases h1:1≤n
 ·by_cases h2:n≤2147483648
  all_goals
   repeat' (first|apply qm|apply qd|apply qc|apply qi|apply qe|(apply qq;(iterate 3 exact rfl))|(apply qv;(iterate 4 exact rfl))|(apply xq;exact cAo)|(apply qh;exact rfl;apply wp;exact cAo)|apply qs)
   exact qk rfl (qz rfl) ⟨congrArg Bv (by simp [wv,h1,h2]),_,rfl⟩
 ·skip
  repeat' (first|apply qm|apply qd|apply qc|apply qi|apply qe|(apply qq;(iterate 3 exact rfl))|(apply qv;(iterate 4 exact rfl))|(apply xc;exact cAo)|(apply qh;exact rfl;apply v8;exact cAo)|apply qs)
  exact qk rfl (qz rfl) ⟨congrArg Bv (by simp [wv,h1]),_,rfl⟩
theorem zch {l:qa} {k:Nat} (h:10∉l.take k) (hk:l.length≤k∨l.getD k 0=10) (hk2:k<l.length∨l.length≤k):upto 10 l=l.take k:=by
 rcases hk2 with hlt|hge
 ·have e:l.getD k 0=10:=hk.resolve_left (by omega)
  have e2:l=l.take k++10::l.drop (k+1):=by
   conv=>lhs;rw [← List.take_append_drop k l,List.drop_eq_getElem_cons hlt]
   congr 2
   simpa [List.getD,hlt] using e
  conv=>lhs;rw [e2]
  exact ve _ h
 ·rw [List.take_of_length_le hge] at h ⊢
  exact wm h
set_option maxHeartbeats 4000000 in
theorem q0i (text:qa) (st:List AObj) (hl:text.length<1000000):qn E 177 [Sv text] st fun r st'=>r = .tu [Iv (vo text).1,Sv (vo text).2]∧st'=st:=by
 refine jo [.s text] (wl (qx _) (qx _)) Tryz.func177 rfl rfl (fun _=>rfl) rfl fun S0=>?_
 by_cases h9:text.length<9
 ·have ht:vo text=(0,text):=qnb fun n r hg e=>by
   have:=q1d n
   rw [e] at h9
   simp [x4,genL] at h9
   omega
  rw [ht]
  apply ql []
  repeat' (first|apply And.intro|(intro h;try exact cDd)|exact cSd|apply qg []|refine exr ?_|refine qp ?_)
 ·have hp6:text.take 6=[35,37,103,101,110,32]↔genL <+: text:=by
   rw [List.prefix_iff_eq_take]
   exact eq_comm
  by_cases hp:genL <+: text
  ·have hp':=hp6.2 hp
   have hd:(text.drop 6).length=text.length - 6:=by simp
   apply ql []
   repeat' (first|apply And.intro|(intro h;try exact cDd)|exact absurd hp' (by assumption)|exact cSd|apply qg []|refine exr ?_|refine qp ?_)
   refine vm (X:=Nat) (fun k=>⟨[(0,.s text),(4,.i k)],[],0⟩) (fun k=>6≤k∧k≤text.length∧10∉(text.drop 6).take (k - 6)) (fun k=>text.length - k) 6 ⟨by omega,by omega,by simp⟩ ?_ ?_
   ·skip
    repeat' (first|apply And.intro|(intro h;try exact cDd)|exact cSd|apply qg []|refine exr ?_|refine qp ?_)
   rintro k ⟨hk6,hk,hno⟩
   have hgd:(text.drop 6).getD (k - 6) 0=text.getD k 0:=by
    simp only [List.getD_eq_getElem?_getD,List.getElem?_drop]
    rw [show 6+(k - 6)=k by omega]
   by_cases hgo:k<text.length∧text.getD k 0≠10
   ·obtain⟨hk1,hk2⟩:=hgo
    have hk3:((text.getD k 0).toNat:Int)≠10:=fun e=>hk2 ((qa1 _).1 e)
    have hno2:10∉(text.drop 6).take (k+1 - 6):=by
     rw [show k+1 - 6=(k - 6)+1 by omega]
     refine qcg (by omega) hno ?_
     rw [hgd]
     exact hk2
    apply ql []
    repeat' (first|apply And.intro|(intro h;try exact cDd)|(refine Exists.intro (k+1) ⟨⟨by omega,by omega,hno2⟩,by omega,?_⟩)|exact cSd|apply qg []|refine exr ?_|refine qp ?_)
   ·have hu:upto 10 (text.drop 6)=(text.drop 6).take (k - 6):=by
     refine zch hno ?_ (by omega)
     by_cases hk1:k<text.length
     ·rw [hgd]
      exact .inr (Classical.byContradiction fun h=>hgo ⟨hk1,h⟩)
     ·exact .inl (by omega)
    have hul:((text.drop 6).take (k - 6)).length=k - 6:=by simp;omega
    have hsp:(text.take k).drop 6=(text.drop 6).take (k - 6):=by rw [List.drop_take]
    have htk:vo text=match numZ ((text.drop 6).take (k - 6)) with
     |some n=>if wv n∧[10,10] <+: text.drop k then (n,text.drop (k+2)) else (0,text)
     |none=>(0,text):=by
     unfold vo
     rw [if_pos hp,hu,hul,show 6+(k - 6)=k by omega,show 8+(k - 6)=k+2 by omega]
     try rfl
    rw [htk]
    have hnl:((text.drop 6).take (k - 6)).length<1000000:=by omega
    by_cases hk1:k<text.length
    ·have hk2:text.getD k 0=10:=Classical.byContradiction fun h=>hgo ⟨hk1,h⟩
     have hk3:((text.getD k 0).toNat:Int)=10:=(qa1 _).2 hk2
     cases hz:numZ ((text.drop 6).take (k - 6)) with
     |none=>
      rw [← hsp] at hz
      have hnN:=fun st=>qfj _ st (by rw [hsp];omega) hz
      apply ql []
      repeat' (first|apply And.intro|(intro h;try exact cDd)|exact⟨Tryz.call145⟩|refine cpe hnN ?_|exact cSd|apply qg []|refine exr ?_|refine qp ?_)
     |some n=>
      rw [← hsp] at hz
      have hnS:=fun st=>qc8 _ n st (by rw [hsp];omega) hz
      simp only
      by_cases hg:wv n
      ·have hg1:decide (wv n)=true:=decide_eq_true hg
       have hgo:=fun st=>qgd n st
       simp only [hg1] at hgo
       by_cases hk4:text.length≤k+1
       ·have hnp:¬ [10,10] <+: text.drop k:=fun ⟨q,hq⟩=>by
         have:=congrArg List.length hq
         simp at this
         omega
        rw [if_neg (fun h=>hnp h.2)]
        apply ql []
        repeat' (first|apply And.intro|(intro h;try exact cDd)|exact⟨Tryz.call145⟩|refine cpe hnS ?_|exact⟨Tryz.call244⟩|refine cpe hgo ?_|exact cSd|apply qg []|refine exr ?_|refine qp ?_)
       ·have e2:text.drop k=text.getD k 0::text.getD (k+1) 0::text.drop (k+2):=by
         rw [List.drop_eq_getElem_cons hk1,List.drop_eq_getElem_cons (show k+1<text.length by omega)]
         simp [List.getD,hk1,show k+1<text.length by omega]
        by_cases hk5:text.getD (k+1) 0=10
        ·have hk6':((text.getD (k+1) 0).toNat:Int)=10:=(qa1 _).2 hk5
         have hk7:¬ ((text.getD (k+1) 0).toNat:Int)≠10:=fun h=>h hk6'
         rw [if_pos ⟨hg,by rw [e2,hk2,hk5];exact⟨_,rfl⟩⟩]
         apply ql []
         repeat' (first|apply And.intro|(intro h;try exact cDd)|exact⟨Tryz.call145⟩|refine cpe hnS ?_|exact⟨Tryz.call244⟩|refine cpe hgo ?_|exact cSd|apply qg []|refine exr ?_|refine qp ?_)
         all_goals exact absurd hk6' (by assumption)
        ·have hk6':¬ ((text.getD (k+1) 0).toNat:Int)=10:=fun e=>hk5 ((qa1 _).1 e)
         rw [if_neg (fun h=>by
          obtain⟨q,hq⟩:=h.2
          rw [e2] at hq
          exact hk5 (List.cons.inj (List.cons.inj hq).2).1.symm)]
         apply ql []
         repeat' (first|apply And.intro|(intro h;try exact cDd)|exact⟨Tryz.call145⟩|refine cpe hnS ?_|exact⟨Tryz.call244⟩|refine cpe hgo ?_|exact cSd|apply qg []|refine exr ?_|refine qp ?_)
         all_goals exact absurd hk6' (by assumption)
      ·have hg1:decide (wv n)=false:=decide_eq_false hg
       have hgo:=fun st=>qgd n st
       simp only [hg1] at hgo
       rw [if_neg (fun h=>hg h.1)]
       apply ql []
       repeat' (first|apply And.intro|(intro h;try exact cDd)|exact⟨Tryz.call145⟩|refine cpe hnS ?_|exact⟨Tryz.call244⟩|refine cpe hgo ?_|exact cSd|apply qg []|refine exr ?_|refine qp ?_)
    ·have hke:k=text.length:=by omega
     have hnp:¬ [10,10] <+: text.drop k:=fun ⟨q,hq⟩=>by
      have:=congrArg List.length hq
      simp at this
      omega
     cases hz:numZ ((text.drop 6).take (k - 6)) with
     |none=>
      rw [← hsp] at hz
      have hnN:=fun st=>qfj _ st (by rw [hsp];omega) hz
      apply ql []
      repeat' (first|apply And.intro|(intro h;try exact cDd)|exact⟨Tryz.call145⟩|refine cpe hnN ?_|exact cSd|apply qg []|refine exr ?_|refine qp ?_)
     |some n=>
      rw [← hsp] at hz
      have hnS:=fun st=>qc8 _ n st (by rw [hsp];omega) hz
      simp only
      rw [if_neg (fun h=>hnp h.2)]
      by_cases hg:wv n
      ·have hg1:decide (wv n)=true:=decide_eq_true hg
       have hgo:=fun st=>qgd n st
       simp only [hg1] at hgo
       apply ql []
       repeat' (first|apply And.intro|(intro h;try exact cDd)|exact⟨Tryz.call145⟩|refine cpe hnS ?_|exact⟨Tryz.call244⟩|refine cpe hgo ?_|exact cSd|apply qg []|refine exr ?_|refine qp ?_)
      ·have hg1:decide (wv n)=false:=decide_eq_false hg
       have hgo:=fun st=>qgd n st
       simp only [hg1] at hgo
       apply ql []
       repeat' (first|apply And.intro|(intro h;try exact cDd)|exact⟨Tryz.call145⟩|refine cpe hnS ?_|exact⟨Tryz.call244⟩|refine cpe hgo ?_|exact cSd|apply qg []|refine exr ?_|refine qp ?_)
  ·have hp':text.take 6≠[35,37,103,101,110,32]:=fun h=>hp (hp6.1 h)
   have ht:vo text=(0,text):=by unfold vo;rw [if_neg hp]
   rw [ht]
   apply ql []
   repeat' (first|apply And.intro|(intro h;try exact cDd)|exact absurd hp' (by assumption)|exact cSd|apply qg []|refine exr ?_|refine qp ?_)
@[reducible] def qff (L : List LnV) : AV := .sl 1 (L.map fun x => Iv (qy x.text)) none
def qgc (L:List LnV):Nat→Bool
 | 0=>false
 |j+1=>match L[j]? with
  |some x=>decide (qy x.text=4∨qy x.text=3)
  |none=>false
theorem qi5 {L:List LnV} {i:Nat} {x:LnV} (h:L[i]? = some x):(L.map fun x=>Iv (qy x.text))[i]? = some (Iv (qy x.text)):=by simp [h]
theorem qhq {L:List LnV} {i:Nat} {x:LnV} (h:L[i]? = some x):(L.map lnA)[i]? = some (lnA x):=by simp [h]
theorem qvd (L:List LnV) (i:Nat) (st:List AObj) (hi:i≤L.length) (hL:L.length<1000000):qn E 222 [qff L,Iv i] st fun r st'=>r=Bv (qgc L i)∧st'=st:=by
 refine jo [.a (qff L),.i i] (qx _) Tryz.func222 rfl rfl (fun _=>rfl) rfl fun S0=>?_
 cases i with
 |zero=>
  apply ql []
  repeat' (first|apply And.intro|(intro h;try exact cDd)|exact cSd|apply qg []|refine exr ?_|refine qp ?_)
 |succ j=>
  obtain⟨x,hx⟩:∃ x,L[j]? = some x:=⟨_,List.getElem?_eq_getElem (by omega)⟩
  have hget:=qi5 hx
  have hp:qgc L (j+1)=decide (qy x.text=4∨qy x.text=3):=by simp only [qgc,hx]
  rw [hp]
  apply ql []
  repeat' (first|apply And.intro|(intro h;try exact cDd)|(refine Exists.intro (j) ⟨by omega,_,hget,?_⟩)|exact cSd|apply qg []|refine exr ?_|refine qp ?_)
  all_goals (simp [*];done)
theorem qtu {L:List LnV} {k:Nat} {x:LnV} (h:L[k]? = some x):(L.drop k).map vn=(x.text,x.ended)::(L.drop (k+1)).map vn:=by
 obtain⟨hlt,he⟩:=List.getElem?_eq_some_iff.1 h
 rw [List.drop_eq_getElem_cons hlt,he]
 rfl
def qge (L:List LnV) (i:Nat) (x:LnV):List qa:=x.text::vh ((L.drop (i+1)).map vn)
theorem qxw:∀ (r:List (qa×Bool)),(vh r).length≤r.length
 | []=>by simp [vh]
 |(t,e)::r=>by
  have:=qxw r
  rw [vh]
  split <;> simp <;> omega
theorem qxx:∀ {r:List (qa×Bool)} {n:Nat},(∀ p∈r,p.1.length≤n)→∀ s∈vh r,s.length≤n
 | [],_,_,s,hs=>by simp [vh] at hs
 |(t,e)::r,n,h,s,hs=>by
  rw [vh] at hs
  split at hs
  ·rcases List.mem_cons.1 hs with rfl|hs
   ·exact h (s,e) (by simp)
   ·exact qxx (fun p hp=>h p (by simp [hp])) s hs
  ·simp at hs
structure LnsB (L:List LnV):Prop where
 len:L.length<100000
 val:∀ x∈L,x.text.length<100000
theorem LnsB.said {L:List LnV} (h:LnsB L) {i:Nat} {x:LnV} (hx:L[i]? = some x):LsB (qge L i x):=by
 have h1:=qxw ((L.drop (i+1)).map vn)
 have h2:=h.len
 have h3:=h.val x (List.mem_of_getElem? hx)
 refine⟨?_,fun s hs=>?_⟩
 ·unfold qge
  simp at h1 ⊢
  omega
 ·rcases List.mem_cons.1 hs with rfl|hs
  ·omega
  ·have:=qxx (n:=100000) (fun p hp=>by
    obtain⟨y,hy,rfl⟩:=List.mem_map.1 hp
    have:=h.val y (List.mem_of_mem_drop hy)
    simp only [vn]
    omega) s hs
   omega
theorem qox (L:List LnV) (i:Nat) (x:LnV) (st:List AObj) (hL:LnsB L) (hx:L[i]? = some x):qn E 141 [lnsA L,qff L,Iv i] st fun r st'=>r=Ss (qge L i x)∧st'=st:=by
 refine jo [.a (lnsA L),.a (qff L),.i i] (qj8 _) Tryz.func141 rfl rfl (fun _=>rfl) rfl fun S0=>?_
 have hLl:=hL.len
 have hil:=lt_of_getElem? hx
 have hget:=qhq hx
 have hml:(L.map lnA).length=L.length:=by simp
 apply ql [14]
 repeat' (first|apply And.intro|(intro h;try exact cDd)|(refine Exists.intro (i) ⟨by omega,_,hget,?_⟩)|exact cSd|apply qg [14]|refine exr ?_|refine qp ?_)
 refine vm (X:=Nat×List qa) (fun (k,acc)=>⟨[(0,.a (lnsA L)),(1,.a (qff L)),(7,.tp 0),(8,.i k)],[(0,some (.tip 1 9 (acc.map fun x=>Sv x)))],1⟩) (fun (k,acc)=>i+1≤k∧k≤L.length∧acc++vh ((L.drop k).map vn)=qge L i x∧acc.length≤k) (fun (k,_)=>L.length - k) (i+1,[x.text]) ⟨by omega,by omega,rfl,by simp⟩ ?_ ?_
 ·skip
  repeat' (first|apply And.intro|(intro h;try exact cDd)|exact cSd|apply qg []|refine exr ?_|refine qp ?_)
  all_goals (simp;done)
 ·rintro⟨k,acc⟩ ⟨hk1,hk2,hacc,hal⟩
  have hmc:(acc.map fun x=>Sv x).length=acc.length:=by simp
  by_cases hk:k<L.length
  ·obtain⟨y,hy⟩:∃ y,L[k]? = some y:=⟨_,List.getElem?_eq_getElem hk⟩
   have hgy:=qhq hy
   have hky:=qi5 hy
   rw [qtu hy] at hacc
   by_cases h3:qy y.text=3
   ·rw [qgb h3] at hacc
    apply ql []
    repeat' (first|apply And.intro|(intro h;try exact cDd)|(refine Exists.intro (k) ⟨by omega,_,hgy,?_⟩)|(refine Exists.intro (k) ⟨by omega,_,hky,?_⟩)|(refine Exists.intro (k+1,acc++[y.text]) ⟨⟨by omega,by omega,by simpa using hacc,by simp;omega⟩,by simp only;omega,?_⟩)|exact cSd|apply qg []|refine exr ?_|refine qp ?_)
    all_goals (simp;done)
   ·rw [qk8 h3,List.append_nil] at hacc
    rw [← hacc]
    apply ql []
    repeat' (first|apply And.intro|(intro h;try exact cDd)|(refine Exists.intro (k) ⟨by omega,_,hky,?_⟩)|exact cSd|apply qg []|refine exr ?_|refine qp ?_)
  ·rw [List.drop_eq_nil_of_le (by omega),List.map_nil,vh,List.append_nil] at hacc
   rw [← hacc]
   apply ql []
   repeat' (first|apply And.intro|(intro h;try exact cDd)|exact cSd|apply qg []|refine exr ?_|refine qp ?_)
theorem qy0 (L:List LnV) (i:Nat) (x:LnV) (n:Nat) (rec:Int) (st:List AObj) (hL:LnsB L) (hx:L[i]? = some x):qn E 139 [lnsA L,qff L,Iv i,Iv n,Iv rec] st fun r st'=>r=Iv (wy (qgc L i) x.text x.ended ((L.drop (i+1)).map vn) n rec)∧st'=st:=by
 refine jo [.a (lnsA L),.a (qff L),.i i,.i n,.i rec] (qx _) Tryz.func139 rfl rfl (fun _=>rfl) rfl fun S0=>?_
 have hLl:=hL.len
 have hil:=lt_of_getElem? hx
 have hgy:=qhq hx
 have hky:=qi5 hx
 have hbe:=fun st=>qvd L i st (by omega) (by omega)
 have hsa:=fun st=>qox L i x st hL hx
 have hun:=fun st=>qia (qge L i x) st (hL.said hx)
 unfold qbi at hun
 unfold wy
 have hsd:x.text::vh ((L.drop (i+1)).map vn)=qge L i x:=rfl
 rw [hsd]
 generalize qgc L i=pv at *
 generalize qge L i x=sl at *
 generalize (zp sl).2=u at *
 obtain⟨xn,xa,xt,xe⟩:=x
 dsimp only at *
 apply ql []
 repeat' (first|apply And.intro|(intro h;try exact cDd)|(refine Exists.intro (i) ⟨by omega,_,hky,?_⟩)|(refine Exists.intro (i) ⟨by omega,_,hgy,?_⟩)|exact⟨Tryz.call222⟩|refine cpe hbe ?_|exact⟨Tryz.call141⟩|refine cpe hsa ?_|exact⟨Tryz.call140⟩|refine cpe hun ?_|exact cSd|apply qg []|refine exr ?_|refine qp ?_)
 all_goals clear hbe hsa hun hgy hky
 all_goals (simp_all <;> omega)
end Go.Proofs.YtneejjefekdgjaaGreatDoor
namespace Go.Pl
open Go Go.Proofs Go.Proofs.YtneejjefekdgjaaGreatDoor
theorem qrn (l:qa):(zd l).1=1∨(zd l).1=2∨(zd l).1=3:=by
 unfold zd
 split
 ·split
  ·split
   ·unfold xh
    split <;> simp
   ·split
    ·unfold wg
     split
     ·simp
     ·split <;> simp
    ·simp
  ·simp
 ·split <;> simp
theorem quh {l:qa} (h1:(zd l).1=1):∃ k:Nat,(zd l).2.2=(k:Int)∧0<k∧k≤l.length:=by
 obtain⟨_,m,hm,hn⟩:=qro (show zd l=(1,(zd l).2.1,(zd l).2.2) by rw [← h1])
 refine⟨_,hn,?_,?_⟩
 ·rw [qkb]
  simp [recL,vr,q6]
 ·have:=congrArg List.length hm
  rw [List.length_append] at this
  omega
theorem ql1 {l:qa}:(zd l).2.1.length≤l.length:=by
 have hp:=kq 10 l
 unfold zd
 split
 ·split
  ·split
   ·simp
   ·split
    ·unfold wg
     split
     ·simp
     ·split
      ·simp;omega
      ·simp
    ·simp
  ·simp
 ·split <;> simp
theorem qmd (l:qa):z1 l.length l≤l.length:=(qme _ _ _ (Nat.le_refl _) (Nat.le_refl _)).2
theorem qrr {f:Nat} {l:qa} {a:Int} {bs:List (List qr)} {es:List Int} (h:(zd l).1=2):recsF (f+1) l a bs es=(false,bs,es,l):=by
 rw [recsF,if_pos h]
theorem quj {f:Nat} {l:qa} {a:Int} {bs:List (List qr)} {es:List Int} (h:(zd l).1=3):recsF (f+1) l a bs es=(true,bs,es,l):=by
 rw [recsF,if_neg (by rw [h];decide),if_neg (by rw [h];decide)]
theorem qui {f:Nat} {l:qa} {a:Int} {bs:List (List qr)} {es:List Int} (h:(zd l).1=1) (hd:decF (zd l).2.1=none):recsF (f+1) l a bs es=(true,bs,es,l):=by
 rw [recsF,if_neg (by rw [h];decide),if_pos h,hd]
theorem qrq {f k:Nat} {l:qa} {a:Int} {bs:List (List qr)} {es:List Int} {b:List qr} (h:(zd l).1=1) (hd:decF (zd l).2.1=some b) (hk:(zd l).2.2=(k:Int)):recsF (f+1) l a bs es=recsF f (l.drop k) (a+k) (bs++[b]) (es++[a+k]):=by
 rw [recsF,if_neg (by rw [h];decide),if_pos h,hd,hk]
 rfl
end Go.Pl
namespace Go.Proofs.YtneejjefekdgjaaGreatDoor
open Go Go.Av Go.RowKit Go.Proofs Go.Pl
@[reducible] def zac (es : List Int) : AV := .sl 1 (es.map fun x => Iv x) none
@[reducible] def qwm (bs : List (List qr)) : AV := .sl 1 (bs.map jm) none
@[reducible] def qg8 (b : xz) : AV := .ag [Iv b.gen, Sv b.base, qwm b.batches, zac b.ends, Sv b.tail]
theorem zcr (l:qa) (b:Bool) (st:List AObj) (hl:l.length<4294967281) (h:begF l=b):qn E 118 [Sv l] st fun r st'=>r=Bv b∧st'=st:=by
 subst h
 exact q74 l st hl
theorem q73 (text:qa) (st:List AObj) (hl:text.length<1000000):qn E 65 [Sv text] st fun r st'=>r=Iv ((z1 text.length text:Nat):Int)∧st'=st:=by
 refine jo [.s text] (qx _) Tryz.func65 rfl rfl (fun _=>rfl) rfl fun S0=>?_
 apply ql []
 repeat' (first|apply And.intro|(intro h;try exact cDd)|exact⟨Tryz.call67⟩|(refine Exists.intro _ ⟨qlm _,?_⟩)|exact cSd|apply qg []|refine exr ?_|refine qp ?_)
 refine qf0 (X:=Int) text 1 2 [0,1] (fun r=>⟨[(0,.s text),(2,.bx 0 0),(5,.fn (.func 121) [] [.bx 1 0])],[(0,some (.cells 3 [.i r])),(1,some (.cells 9 [.s text]))],2⟩) _
  (fun k rest r=>r=0∧rest.length≤text.length∧z1 text.length text=z1 text.length rest) (fun c r=>c = .ret∧r=((z1 text.length text:Nat):Int)) 0 ⟨rfl,by omega,rfl⟩ ?_ id (by omega) (fun _=>rfl) rfl (fun _=>rfl) (fun _=>rfl) rfl ?_ ?_ ?_
 ·skip
  repeat' (first|apply And.intro|(intro h;try exact cDd)|exact cSd|apply qg []|refine exr ?_|refine qp ?_)
 ·rintro k rest r ⟨rfl,hrl,hbeg⟩ hne hle
  have hu:=kv 10 rest
  have hpl:=kq 10 rest
  have hbg:=fun st=>zcr (upto 10 rest) _ st (by omega) rfl
  unfold qk4
  by_cases hb:begF (upto 10 rest)=true
  ·rw [hb] at hbg
   have hv:((text.length:Int) - rest.length)=((z1 text.length text:Nat):Int):=by
    rw [hbeg,qg7 hne hb]
    omega
   refine RA.mk fun S F ρ rd=>?_
   apply ql []
   repeat' (first|apply And.intro|(intro h;try exact cDd)|(refine RB.mk fun S rd=>?_;apply ql [])|exact⟨Tryz.call118⟩|refine cpe hbg ?_|(refine Exists.intro _ ⟨⟨rfl,hv⟩,?_⟩)|exact cSd|apply qg []|refine exr ?_|refine qp ?_)
  ·have hb':begF (upto 10 rest)=false:=by simpa using hb
   rw [hb'] at hbg
   refine RA.mk fun S F ρ rd=>?_
   apply ql []
   repeat' (first|apply And.intro|(intro h;try exact cDd)|(refine RB.mk fun S rd=>?_;apply ql [])|exact⟨Tryz.call118⟩|refine cpe hbg ?_|(refine Exists.intro 0 ⟨⟨rfl,by omega,by rw [hbeg,qio hne (by rw [hb'];decide)]⟩,?_⟩)|exact cSd|apply qg []|refine exr ?_|refine qp ?_)
 ·rintro k r ⟨rfl,hrl,hbeg⟩
  rw [qdh] at hbeg
  rw [hbeg]
  repeat' (first|apply And.intro|(intro h;try exact cDd)|exact cSd|apply qg []|refine exr ?_|refine qp ?_)
 ·rintro c r ⟨rfl,rfl⟩
  repeat' (first|apply And.intro|(intro h;try exact cDd)|exact cSd|apply qg []|refine exr ?_|refine qp ?_)
theorem qh8 {a b c:AV} (h1:Pure a) (h2:Pure b) (h3:Pure c):Pure (.tu [a,b,c]):=qdq fun z hz=>by
 simp only [List.mem_cons,List.not_mem_nil,or_false] at hz
 rcases hz with rfl|rfl|rfl
 ·exact h1
 ·exact h2
 ·exact h3
def qc9 (text:qa):AV:=if 60000<text.length then .tu [ya [],Iv (-9),Iv 1] else match (js text).1 with
 |some e=>.tu [ya [],Iv e.1,Iv e.2]
 |none=>.tu [ya (js text).2,Iv (-9),Iv 0]
theorem qsv (text:qa):Pure (qc9 text):=by
 unfold qc9
 split
 ·exact qh8 (qd4 _) (qx _) (qx _)
 ·split
  ·exact qh8 (qd4 _) (qx _) (qx _)
  ·exact qh8 (qd4 _) (qx _) (qx _)
theorem q3s {L:List LnV} {k:Nat} {x:LnV} (h:L[k]? = some x):qgc L (k+1)=decide (qy x.text=4∨qy x.text=3):=by simp only [qgc,h]
set_option maxHeartbeats 2000000 in
theorem qyw (text:qa) (st:List AObj) (hl:text.length<1000000):qn E 78 [Sv text] st fun r st'=>r=qc9 text∧st'=st:=by
 refine jo [.s text] (qsv text) Tryz.func78 rfl rfl (fun _=>rfl) rfl fun S0=>?_
 by_cases hbig:60000<text.length
 ·have e:qc9 text = .tu [ya [],Iv (-9),Iv 1]:=if_pos hbig
  rw [e]
  apply ql []
  repeat' (first|apply And.intro|(intro h;try exact cDd)|exact cSd|apply qg []|refine exr ?_|refine qp ?_)
 have hRA:qc9 text=match (js text).1 with
  |some e=>.tu [ya [],Iv e.1,Iv e.2]
  |none=>.tu [ya (js text).2,Iv (-9),Iv 0]:=if_neg hbig
 rw [hRA]
 clear hRA
 obtain⟨L,hL⟩:∃ L,L=lns text:=⟨_,rfl⟩
 have hLl:L.length≤text.length:=by rw [hL];exact qb7 _ text 0 0 (Nat.le_refl _)
 have hLB:LnsB L:=⟨by omega,fun x hx=>by have:=qrc _ text 0 0 (Nat.le_refl _) x (by rw [hL] at hx;exact hx);omega⟩
 have hrun:refL 0 ((L.drop 0).map vn) (qgc L 0) ⟨2,[],[]⟩ 0 []=js text:=by
  rw [List.drop_zero,hL,qmw]
  exact qjo text
 have hml:(L.map lnA).length=L.length:=by simp
 have hspl:∀ st,qn E 137 [Sv text] st fun r st'=>r=lnsA L∧st'=st:=fun st=>by rw [hL];exact qhl text st (by omega)
 clear hL
 generalize js text=PF at hrun
 apply ql []
 repeat' (first|apply And.intro|(intro h;try exact cDd)|exact⟨Tryz.call137⟩|refine cpe hspl ?_|exact cSd|apply qg []|refine exr ?_|refine qp ?_)
 refine vm (X:=Nat) (fun k=>⟨[(5,.a (lnsA L)),(6,.tp 0),(7,.i k)],[(0,some (.tip 1 3 ((L.take k).map fun x=>Iv (qy x.text))))],1⟩) (fun k=>k≤L.length) (fun k=>L.length - k) 0 (by omega) ?_ ?_
 ·skip
  repeat' (first|apply And.intro|(intro h;try exact cDd)|exact cSd|apply qg []|refine exr ?_|refine qp ?_)
 ·intro k hk
  by_cases hkl:k<L.length
  ·obtain⟨x,hx⟩:∃ x,L[k]? = some x:=⟨_,List.getElem?_eq_getElem hkl⟩
   have hgx:=qhq hx
   have hxl:=hLB.val x (List.mem_of_getElem? hx)
   have hkd:=fun st=>qgq x.text st (by omega)
   apply ql []
   repeat' (first|apply And.intro|(intro h;try exact cDd)|(refine Exists.intro _ ⟨rfl,_,hgx,?_⟩)|exact⟨Tryz.call138⟩|refine cpe hkd ?_|(refine Exists.intro (k+1) ⟨by omega,by omega,?_⟩)|exact cSd|apply qg []|refine exr ?_|refine qp ?_)
   rw [List.take_add_one,hx]
   simp
  ·have e:L.take k=L:=List.take_of_length_le (by omega)
   apply ql []
   repeat' (first|apply And.intro|(intro h;try exact cDd)|exact cSd|apply qg []|refine exr ?_|refine qp ?_)
   refine vm (X:=Nat×ka×Int×List ka) (fun (k,⟨nk,nr,nf⟩,rec,out)=>⟨[(5,.a (lnsA L)),(6,.a (qff L)),(8,.tp 0),(9,.bx 1 0),(10,.i rec),(11,.i k)],
     [(0,some (.tip 3 52 (out.map x3))),(1,some (.cells 52 [.i nk,.s nr,.tp 2])),(2,some (.tip 2 111 (nf.map fldA)))],3⟩)
    (fun (k,now,rec,out)=>k≤L.length∧refL k ((L.drop k).map vn) (qgc L k) now rec out=PF∧0≤rec∧rec≤k∧out.length≤2 * k∧now.fields.length≤k∧now.raw.length≤200000 * k) (fun x=>L.length - x.1) (0,⟨2,[],[]⟩,0,[])
    ⟨by omega,hrun,by omega,by omega,by simp,by simp,by simp⟩ ?_ ?_
   ·skip
    repeat' (first|apply And.intro|(intro h;try exact cDd)|(refine qp ?_;rw [e])|exact cSd|apply qg []|refine exr ?_|refine qp ?_)
   ·rintro⟨j,⟨nk,nr,nf⟩,rec,out⟩ ⟨hj,hR,hr0,hr1,hol,hfl,hrl⟩
    simp only at hfl hrl
    by_cases hjl:j<L.length
    ·obtain⟨x,hx⟩:∃ x,L[j]? = some x:=⟨_,List.getElem?_eq_getElem hjl⟩
     have hgx:=qhq hx
     have hkx:=qi5 hx
     have hxl:=hLB.val x (List.mem_of_getElem? hx)
     have hwr:∀ st,qn E 139 [lnsA L,qff L,Iv j,Iv ((nf.map fldA).length:Nat),Iv rec] st fun r st'=>r=Iv (wy (qgc L j) x.text x.ended ((L.drop (j+1)).map vn) nf.length rec)∧st'=st:=fun st=>by rw [List.length_map];exact qy0 L j x nf.length rec st hLB hx
     have hsa:=fun st=>qox L j x st hLB hx
     have hun:=fun st=>qia (qge L j x) st (hLB.said hx)
     unfold qbi at hun
     have hpv:=q3s hx
     have hsd:x.text::vh ((L.drop (j+1)).map vn)=qge L j x:=rfl
     rw [qtu hx,refL,hsd] at hR
     simp only at hR
     by_cases h1:qy x.text=1
     ·apply ql []
      repeat' (first|apply And.intro|(intro h;try exact cDd)|(refine Exists.intro _ ⟨rfl,_,hgx,?_⟩)|(refine Exists.intro _ ⟨rfl,_,hkx,?_⟩)|exact⟨Tryz.call139⟩|refine cpe hwr ?_|exact⟨Tryz.call141⟩|refine cpe hsa ?_|exact⟨Tryz.call140⟩|refine cpe hun ?_|(rw [if_pos (by assumption)] at hR;rw [← hR];exact qnv _)|(refine Exists.intro (j+1,⟨2,[],[]⟩,rec,outR ⟨nk,nr,nf⟩ out++[⟨1,x.text++[10],[]⟩]) ⟨?_,by simp only;omega,?_⟩)|exact cSd|apply qg []|refine exr ?_|refine qp ?_)
      all_goals first|grind [outR]|(simp [outR,x3, *] at hR ⊢;done)|(simp [outR,x3, *] at hR ⊢;omega)
     ·by_cases h4:qy x.text=4
      ·apply ql []
       repeat' (first|apply And.intro|(intro h;try exact cDd)|(refine Exists.intro _ ⟨rfl,_,hgx,?_⟩)|(refine Exists.intro _ ⟨rfl,_,hkx,?_⟩)|exact⟨Tryz.call139⟩|refine cpe hwr ?_|exact⟨Tryz.call141⟩|refine cpe hsa ?_|exact⟨Tryz.call140⟩|refine cpe hun ?_|(rw [if_pos (by assumption)] at hR;rw [← hR];exact qnv _)|(refine Exists.intro (j+1,⟨3,nr++x.text++[10],nf++[(zp (qge L j x)).1]⟩,if nk=2 then rec+1 else rec,out) ⟨?_,by simp only;omega,?_⟩)|exact cSd|apply qg []|refine exr ?_|refine qp ?_)
       all_goals first|grind [outR]|(simp [outR,x3, *] at hR ⊢;done)|(simp [outR,x3, *] at hR ⊢;omega)
      ·apply ql []
       repeat' (first|apply And.intro|(intro h;try exact cDd)|(refine Exists.intro _ ⟨rfl,_,hgx,?_⟩)|(refine Exists.intro _ ⟨rfl,_,hkx,?_⟩)|exact⟨Tryz.call139⟩|refine cpe hwr ?_|exact⟨Tryz.call141⟩|refine cpe hsa ?_|exact⟨Tryz.call140⟩|refine cpe hun ?_|(rw [if_pos (by assumption)] at hR;rw [← hR];exact qnv _)|(refine Exists.intro (j+1,⟨nk,nr++x.text++[10],nf⟩,rec,out) ⟨?_,by simp only;omega,?_⟩)|exact cSd|apply qg []|refine exr ?_|refine qp ?_)
       all_goals first|grind [outR]|(simp [outR,x3, *] at hR ⊢;done)|(simp [outR,x3, *] at hR ⊢;omega)
    ·have e:(L.drop j).map vn=[]:=by rw [List.drop_eq_nil_of_le (by omega)];rfl
     rw [e,refL] at hR
     rw [← hR]
     apply ql []
     repeat' (first|apply And.intro|(intro h;try exact cDd)|exact cSd|apply qg []|refine exr ?_|refine qp ?_)
     all_goals first|grind [outR]|(simp [outR,x3, *] at hR ⊢;done)|(simp [outR,x3, *] at hR ⊢;omega)
theorem qw1 (b:List qr):qni (jm b):=fun y hy=>by
 simp only [AV.cells,List.mem_cons,List.not_mem_nil,or_false] at hy
 subst hy
 exact qco _
theorem qu5 (bs:List (List qr)):Pure (qwm bs):=qew fun x hx=>by
 obtain⟨b,_,rfl⟩:=List.mem_map.1 hx
 exact qw1 b
theorem q3e (es:List Int):Pure (zac es):=qew fun x hx=>by
 obtain⟨b,_,rfl⟩:=List.mem_map.1 hx
 intro y hy
 simp only [AV.cells,List.mem_cons,List.not_mem_nil,or_false] at hy
 subst hy
 exact qx _
theorem qqi (b:xz):Pure (qg8 b):=qj9 fun x hx=>by
 simp only [List.mem_cons,List.not_mem_nil,or_false] at hx
 rcases hx with rfl|rfl|rfl|rfl|rfl
 ·exact qx _
 ·exact qx _
 ·exact qu5 _
 ·exact q3e _
 ·exact qx _
def qmg (x:ErrV×xz):AV:=.tu [qg8 x.2,errA x.1]
theorem qzs (x:ErrV×xz):Pure (qmg x):=wl (qqi _) (qb5 _)
theorem q0l (text:qa) (st:List AObj) (hl:60000<text.length) (h2:text.length<1000000):qn E 23 [Sv text] st fun r st'=>r = .tu [ya [],errA (.num 1)]∧st'=st:=by
 refine jo [.s text] (wl (qd4 _) (qb5 _)) Tryz.func23 rfl rfl (fun _=>rfl) rfl fun S0=>?_
 apply ql []
 repeat' (first|apply And.intro|(intro h;try exact cDd)|exact cSd|apply qg []|refine exr ?_|refine qp ?_)
def itsE (text:qa):List ka:=if 60000<text.length then [] else (js text).2
theorem q6z (text:qa) (st:List AObj) (hl:text.length<1000000):qn E 23 [Sv text] st fun r st'=>r = .tu [ya (itsE text),errA (vp text)]∧st'=st:=by
 unfold vp itsE
 by_cases hb:60000<text.length
 ·rw [if_pos hb,if_pos hb]
  exact q0l text st hb hl
 ·rw [if_neg hb,if_neg hb]
  have:=qpu text st (by omega)
  unfold qc7 at this
  rcases hp:(js text).1 with _ | ⟨x,y⟩
  ·rw [hp] at this
   exact this
  ·rw [hp] at this
   exact this
theorem qwp (gen:Int) (base text:qa) (a:Nat) (hl:text.length<1000000) (ha:a≤text.length) (r:SV) (hp1:List (Nat×Option SR)) (nx1:Nat) (R:Bool×List (List qr)×List Int×qa) (hR:Go.Pl.recsF (text.length+1) (text.drop a) a [] []=R)
  (hok:R.1=false→r = .a (.v .nilIface)∧hp1=[(0,some (.cells 41 [.i gen,.s base,.tp 1,.tp 2,.s R.2.2.2])),(1,some (.tip 1 90 (R.2.1.map jm))),(2,some (.tip 1 3 (R.2.2.1.map fun x=>Iv x)))]∧nx1=3)
  (hbad:R.1=true→r = .a (errA (.at' R.2.1.length 10))∧hp1=[]∧nx1=1):qac E 66 [.bx 0 0,.s text,.i a] 1 (hpF [(0,some (.cells 41 [.i gen,.s base,.a zu,.a zu,.s []]))]) ⟨r,yb [(0,some (.cells 41 [.i gen,.s base,.a zu,.a zu,.s []]))],hp1++qav [(0,some (.cells 41 [.i gen,.s base,.a zu,.a zu,.s []]))],nx1⟩:=by
 refine qft [.bx 0 0,.s text,.i a] [(0,some (.cells 41 [.i gen,.s base,.a zu,.a zu,.s []]))] 1 r hp1 nx1 Tryz.func66 rfl rfl rfl ?_ fun S F ρ=>?_
 ·cases h:R.1 with
  |false=>obtain⟨rfl,rfl,rfl⟩:=hok h;rfl
  |true=>obtain⟨rfl,rfl,rfl⟩:=hbad h;rfl
 apply ql []
 repeat' (first|apply And.intro|(intro h;try exact cDd)|exact cSd|apply qg []|refine exr ?_|refine qp ?_)
 refine vm (X:=Nat×Nat×List (List qr)×List Int) (fun (k,f,bs,es)=>⟨[(0,.bx 0 0),(1,.s text),(2,.i k)],[(0,some (.cells 41 [.i gen,.s base,.tp 1,.tp 2,.s []])),(1,some (.tip 1 90 (bs.map jm))),(2,some (.tip 1 3 (es.map fun x=>Iv x)))],3⟩)
  (fun (k,f,bs,es)=>k≤text.length∧text.length - k<f∧Go.Pl.recsF f (text.drop k) k bs es=R∧bs.length≤k∧es.length≤k) (fun x=>text.length - x.1) (a,text.length+1,[],[]) ⟨ha,by omega,hR,by simp,by simp⟩ ?_ ?_
 ·skip
  repeat' (first|apply And.intro|(intro h;try exact cDd)|exact cSd|apply qg []|refine exr ?_|refine qp ?_)
 ·rintro⟨k,f,bs,es⟩ ⟨hk,hf,hR,hbl,hel⟩
  obtain⟨f,rfl⟩:∃ f',f=f'+1:=⟨f - 1,by omega⟩
  have hrd:=fun st=>zdg (text.drop k) st (by simp;omega)
  have hll:(text.drop k).length=text.length - k:=by simp
  have hbd:=ql1 (l:=text.drop k)
  have hde:=fun st=>q8e (zd (text.drop k)).2.1 st (by omega)
  rcases qrn (text.drop k) with h1|h2|h3
  ·rw [h1] at hrd
   obtain⟨n',hn',hn0',hnl⟩:=quh h1
   cases hdd:decF (zd (text.drop k)).2.1 with
   |none=>
    rw [qui h1 hdd] at hR
    rw [hdd] at hde
    subst hR
    obtain⟨rfl,rfl,rfl⟩:=hbad rfl
    apply ql []
    repeat' (first|apply And.intro|(intro h;try exact cDd)|exact⟨Tryz.call119⟩|refine cpe hrd ?_|exact⟨Tryz.call120⟩|refine cpe hde ?_|exact cSd|apply qg []|refine exr ?_|refine qp ?_)
    rw [List.length_map]
    rfl
   |some b=>
    rw [qrq h1 hdd hn'] at hR
    rw [hdd] at hde
    rw [hn'] at hrd
    apply ql []
    repeat' (first|apply And.intro|(intro h;try exact cDd)|exact⟨Tryz.call119⟩|refine cpe hrd ?_|exact⟨Tryz.call120⟩|refine cpe hde ?_|(refine Exists.intro (k+n',f,bs++[b],es++[((k+n':Nat):Int)]) ⟨?_,by simp only;omega,?_⟩)|exact cSd|apply qg []|refine exr ?_|refine qp ?_)
    all_goals first|(rw [← hR,Int.natCast_add,List.drop_drop];done)|(simp;done)
  ·rw [h2] at hrd
   rw [qrr h2] at hR
   subst hR
   obtain⟨rfl,rfl,rfl⟩:=hok rfl
   cases hdd:decF (zd (text.drop k)).2.1 <;> rw [hdd] at hde
   all_goals
    apply ql []
    repeat' (first|apply And.intro|(intro h;try exact cDd)|exact⟨Tryz.call119⟩|refine cpe hrd ?_|exact⟨Tryz.call120⟩|refine cpe hde ?_|exact cSd|apply qg []|refine exr ?_|refine qp ?_)
  ·rw [h3] at hrd
   rw [quj h3] at hR
   subst hR
   obtain⟨rfl,rfl,rfl⟩:=hbad rfl
   cases hdd:decF (zd (text.drop k)).2.1 <;> rw [hdd] at hde
   all_goals
    apply ql []
    repeat' (first|apply And.intro|(intro h;try exact cDd)|exact⟨Tryz.call119⟩|refine cpe hrd ?_|exact⟨Tryz.call120⟩|refine cpe hde ?_|exact cSd|apply qg []|refine exr ?_|refine qp ?_)
   all_goals
    rw [List.length_map]
    rfl
theorem q0z (text:qa) (st:List AObj) (hl:text.length<1000000):qn E 22 [Sv text] st fun r st'=>r=qmg (kg text)∧st'=st:=by
 refine jo [.s text] (qzs _) Tryz.func22 rfl rfl (fun _=>rfl) rfl fun S0=>?_
 by_cases hbig:120000<text.length
 ·have e:kg text=(.num 1,qa9):=if_pos hbig
  rw [e]
  apply ql []
  repeat' (first|apply And.intro|(intro h;try exact cDd)|exact cSd|apply qg []|refine exr ?_|refine qp ?_)
 have hsp:=qgh text
 have hrl:(vo text).2.length≤text.length:=by
  conv=>rhs;rw [hsp.1]
  simp
 have hbl:=qmd (vo text).2
 obtain⟨g,rest,htk⟩:∃ g rest,vo text=(g,rest):=⟨_,_,rfl⟩
 have hF:kg text=match vp (rest.take (z1 rest.length rest)) with
   | .no=>if (Go.Pl.recsF (text.length+1) (rest.drop (z1 rest.length rest)) (((text.length - rest.length+z1 rest.length rest:Nat)):Int) [] []).1=true then (.at' (Go.Pl.recsF (text.length+1) (rest.drop (z1 rest.length rest)) (((text.length - rest.length+z1 rest.length rest:Nat)):Int) [] []).2.1.length 10,qa9)
    else (.no,⟨g,rest.take (z1 rest.length rest),(Go.Pl.recsF (text.length+1) (rest.drop (z1 rest.length rest)) (((text.length - rest.length+z1 rest.length rest:Nat)):Int) [] []).2.1,(Go.Pl.recsF (text.length+1) (rest.drop (z1 rest.length rest)) (((text.length - rest.length+z1 rest.length rest:Nat)):Int) [] []).2.2.1,(Go.Pl.recsF (text.length+1) (rest.drop (z1 rest.length rest)) (((text.length - rest.length+z1 rest.length rest:Nat)):Int) [] []).2.2.2⟩)
   |e=>(e,qa9):=by
  unfold kg
  rw [if_neg hbig]
  unfold qci qd8 atH qbj
  rw [htk]
  try rfl
 have htk2:∀ st,qn E 29 [Sv text] st fun r st'=>r = .tu [Iv g,Sv rest]∧st'=st:=fun st=>by
  have:=zbm text st hl
  rw [htk] at this
  exact this
 rw [htk] at hrl hbl hsp
 simp only at hrl hbl hsp
 have hdr:rest.drop (z1 rest.length rest)=text.drop (text.length - rest.length+z1 rest.length rest):=by
  have h1:text.length=(wd g).length+rest.length:=by
   have:=congrArg List.length hsp.1
   simpa using this
  conv=>rhs;rhs;rw [hsp.1]
  rw [← List.drop_drop,show text.length - rest.length=(wd g).length by omega,List.drop_left]
 rw [hdr] at hF
 clear hdr hsp htk
 have hbg:=fun st=>q73 rest st (by omega)
 generalize z1 rest.length rest=a at hF hbl hbg
 have hpa:=fun st=>q6z (rest.take a) st (by simp;omega)
 have hsub:((text.length:Int) - (rest.length:Int))+(a:Int)=((text.length - rest.length+a:Nat):Int):=by omega
 rw [show (((text.length - rest.length+a:Nat)):Int)=(((text.length - rest.length+a:Nat)):Int) from rfl] at hF
 obtain⟨R,hR⟩:∃ R,Go.Pl.recsF (text.length+1) (text.drop (text.length - rest.length+a)) ((text.length - rest.length+a:Nat):Int) [] []=R:=⟨_,rfl⟩
 rw [hR] at hF
 have hok:=fun h=>qwp g (rest.take a) text (text.length - rest.length+a) hl (by omega) (.a (.v .nilIface)) [(0,some (.cells 41 [.i g,.s (rest.take a),.tp 1,.tp 2,.s R.2.2.2])),(1,some (.tip 1 90 (R.2.1.map jm))),(2,some (.tip 1 3 (R.2.2.1.map fun x=>Iv x)))] 3 R hR (fun _=>⟨rfl,rfl,rfl⟩) h
 have hbad:=fun h=>qwp g (rest.take a) text (text.length - rest.length+a) hl (by omega) (.a (errA (.at' R.2.1.length 10))) [] 1 R hR h (fun _=>⟨rfl,rfl,rfl⟩)
 generalize itsE (rest.take a)=its at hpa
 cases hpe:vp (rest.take a) with
 |no=>
  rw [hpe] at hF hpa
  simp only at hF
  by_cases hR1:R.1=true
  ·rw [if_pos hR1] at hF
   rw [hF]
   apply ql []
   repeat' (first|apply And.intro|(intro h;try exact cDd)|exact⟨Tryz.call29⟩|refine cpe htk2 ?_|exact⟨Tryz.call65⟩|refine cpe hbg ?_|exact⟨Tryz.call23⟩|refine cpe hpa ?_|exact⟨Tryz.call66⟩|(refine y4 (hbad fun h=>by rw [hR1] at h;simp at h) ?_)|exact cSd|apply qg []|refine exr ?_|refine qp ?_)
   all_goals exact congrArg Iv hsub
  ·rw [if_neg hR1] at hF
   rw [hF]
   apply ql []
   repeat' (first|apply And.intro|(intro h;try exact cDd)|exact⟨Tryz.call29⟩|refine cpe htk2 ?_|exact⟨Tryz.call65⟩|refine cpe hbg ?_|exact⟨Tryz.call23⟩|refine cpe hpa ?_|exact⟨Tryz.call66⟩|(refine y4 (hok fun h=>absurd h hR1) ?_)|exact cSd|apply qg []|refine exr ?_|refine qp ?_)
   all_goals exact congrArg Iv hsub
 |num n=>
  rw [hpe] at hF hpa
  have hF2:kg text=(.num n,qa9):=hF
  rw [hF2]
  apply ql []
  repeat' (first|apply And.intro|(intro h;try exact cDd)|exact⟨Tryz.call29⟩|refine cpe htk2 ?_|exact⟨Tryz.call65⟩|refine cpe hbg ?_|exact⟨Tryz.call23⟩|refine cpe hpa ?_|exact cSd|apply qg []|refine exr ?_|refine qp ?_)
 |at' p n=>
  rw [hpe] at hF hpa
  have hF2:kg text=(.at' p n,qa9):=hF
  rw [hF2]
  apply ql []
  repeat' (first|apply And.intro|(intro h;try exact cDd)|exact⟨Tryz.call29⟩|refine cpe htk2 ?_|exact⟨Tryz.call65⟩|refine cpe hbg ?_|exact⟨Tryz.call23⟩|refine cpe hpa ?_|exact cSd|apply qg []|refine exr ?_|refine qp ?_)
theorem q8t (n:Int):(wd n).length≤100:=by
 unfold wd
 split
 ·rename_i h
  have:=qt9 h
  omega
 ·simp
theorem qo5 (b:xz) (st:List AObj) (hb:b.base.length<1000000) (he:b.ends.length<1000000):qn E 101 [qg8 b] st fun r st'=>r=Iv (xy b)∧st'=st:=by
 have hh:=q8t b.gen
 have hle:=fun st=>zc2 b.gen st
 refine jo [.a (qg8 b)] (qx _) Tryz.func101 rfl rfl (fun _=>rfl) rfl fun S0=>?_
 by_cases h0:b.ends=[]
 ·have e:xy b=((wd b.gen).length:Int)+(b.base.length:Int):=by simp [xy,h0]
  rw [e]
  have hl0:(b.ends.map fun x=>Iv x).length=0:=by simp [h0]
  apply ql []
  repeat' (first|apply And.intro|(intro h;try exact cDd)|exact⟨Tryz.call166⟩|refine cpe hle ?_|exact cSd|apply qg []|refine exr ?_|refine qp ?_)
 ·obtain⟨x,hx⟩:∃ x,b.ends.getLast? = some x:=by
   cases h:b.ends.getLast? with
   |none=>exact absurd (List.getLast?_eq_none_iff.1 h) h0
   |some x=>exact⟨x,rfl⟩
  have e:xy b=x:=by simp [xy,hx]
  rw [e]
  have hl0:0<b.ends.length:=List.length_pos_iff.2 h0
  have hml:(b.ends.map fun x=>Iv x).length=b.ends.length:=by simp
  have hg:(b.ends.map fun x=>Iv x)[b.ends.length - 1]? = some (Iv x):=by
   rw [List.getLast?_eq_getElem?] at hx
   simp [hx]
  apply ql []
  repeat' (first|apply And.intro|(intro h;try exact cDd)|exact⟨Tryz.call166⟩|refine cpe hle ?_|(refine Exists.intro (b.ends.length - 1) ⟨by omega,_,hg,?_⟩)|exact cSd|apply qg []|refine exr ?_|refine qp ?_)
theorem quk:∀ r:List (List qr),r.length≤(we r).length
 | []=>by simp [we]
 |b::r=>by
  have:=quk r
  have h1:=qpr b
  rw [qbh]
  simp
  omega
structure zds (text:qa) (b:xz):Prop where
 base:b.base.length<1000000
 tail:b.tail.length<1000000
 ends : b.ends.length < 1000000
 whole:xy b=((ye b).length:Int)
 wlen:(ye b).length≤text.length
 size:xy b+b.tail.length=text.length
theorem qob {text:qa} {b:xz} (h:qaz text b):zds text b:=by
 have h1:=congrArg List.length h.split
 have h2:=h.len
 have h3:=quk b.batches
 have h4:=h.whole
 simp only [List.length_append,ye] at h1
 refine⟨by omega,by omega,by rw [h.ends,qmk];omega,h4,by simp only [ye,List.length_append];omega,?_⟩
 rw [h4]
 simp only [ye,List.length_append]
 omega
theorem zcq (text:qa) (x:List qr) (st:List AObj) (hl:text.length<1000000) (hB:∀ y∈x,EdB y) (hx:x.length<1000000):qn E 53 [Sv text,jm x] st fun r st'=>r = .tu [Sv (Go.Pl.appF text x).2,errA (Go.Pl.appF text x).1]∧st'=st:=by
 refine jo [.s text,.a (jm x)] (wl (qx _) (qb5 _)) Tryz.func53 rfl rfl (fun _=>rfl) rfl fun S0=>?_
 have hbr:=fun st=>q0z text st hl
 unfold Go.Pl.appF
 have hbk:kg text=((kg text).1,(kg text).2):=rfl
 cases hbe:(kg text).1 with
 |no=>
  rw [hbe] at hbk
  have hT:=qwo hbk
  have hS:=qob hT
  obtain⟨hs1,hs2,hs3,hs4,hs5,hs6⟩:=hS
  rw [hbk] at hbr
  generalize (kg text).2=b at hbr hT hs1 hs2 hs3 hs4 hs5 hs6
  unfold qmg at hbr
  have hwh:=fun st=>qo5 b st hs1 hs3
  rw [hs4] at hwh
  simp only [hs4,Int.toNat_natCast]
  have htl:=hT.len
  cases hee:eErr x with
  |no=>
   have hen:=fun st=>qty x st hB hee
   by_cases h5:50000<(encF x).length
   ·simp only [if_pos h5]
    apply ql []
    repeat' (first|apply And.intro|(intro h;try exact cDd)|exact⟨Tryz.call22⟩|refine cpe hbr ?_|exact⟨Tryz.call103⟩|refine cpe hen ?_|exact cSd|apply qg []|refine exr ?_|refine qp ?_)
   ·simp only [if_neg h5]
    have hgx:qdd x:=⟨hee,hB,by omega⟩
    have hrc:=fun st=>q6n (encF x) st (by omega) hgx.good
    have hrl:=qrp hgx.good
    have hre:recF (encF x)=recE x:=rfl
    rw [hre] at hrc hrl
    by_cases h12:(120000:Int)<((ye b).length:Int)+((recE x).length:Int)
    ·rw [if_pos h12]
     apply ql []
     repeat' (first|apply And.intro|(intro h;try exact cDd)|exact⟨Tryz.call22⟩|refine cpe hbr ?_|exact⟨Tryz.call103⟩|refine cpe hen ?_|exact⟨Tryz.call104⟩|refine cpe hrc ?_|exact⟨Tryz.call101⟩|refine cpe hwh ?_|exact cSd|apply qg []|refine exr ?_|refine qp ?_)
    ·rw [if_neg h12]
     apply ql []
     repeat' (first|apply And.intro|(intro h;try exact cDd)|exact⟨Tryz.call22⟩|refine cpe hbr ?_|exact⟨Tryz.call103⟩|refine cpe hen ?_|exact⟨Tryz.call104⟩|refine cpe hrc ?_|exact⟨Tryz.call101⟩|refine cpe hwh ?_|exact cSd|apply qg []|refine exr ?_|refine qp ?_)
  |num n=>
   have hen:=fun st=>qiu x st _ hB (by omega) hee (fun h=>by have:=(qc1 x).1 (by rw [hee];exact h);rw [hee] at this;simp at this)
   apply ql []
   repeat' (first|apply And.intro|(intro h;try exact cDd)|exact⟨Tryz.call22⟩|refine cpe hbr ?_|exact⟨Tryz.call103⟩|refine cpe hen ?_|exact cSd|apply qg []|refine exr ?_|refine qp ?_)
  |at' p n=>
   have hen:=fun st=>qiu x st _ hB (by omega) hee (fun h=>by have:=(qc1 x).1 (by rw [hee];exact h);rw [hee] at this;simp at this)
   apply ql []
   repeat' (first|apply And.intro|(intro h;try exact cDd)|exact⟨Tryz.call22⟩|refine cpe hbr ?_|exact⟨Tryz.call103⟩|refine cpe hen ?_|exact cSd|apply qg []|refine exr ?_|refine qp ?_)
 |num n=>
  rw [hbe] at hbk
  rw [hbk] at hbr
  unfold qmg at hbr
  apply ql []
  repeat' (first|apply And.intro|(intro h;try exact cDd)|exact⟨Tryz.call22⟩|refine cpe hbr ?_|exact cSd|apply qg []|refine exr ?_|refine qp ?_)
 |at' p n=>
  rw [hbe] at hbk
  rw [hbk] at hbr
  unfold qmg at hbr
  apply ql []
  repeat' (first|apply And.intro|(intro h;try exact cDd)|exact⟨Tryz.call22⟩|refine cpe hbr ?_|exact cSd|apply qg []|refine exr ?_|refine qp ?_)
def cutL:List LnV→Int→Int
 | [],d=>d
 |x::r,d=>if begF x.text=true then (x.at':Int) else cutL r d
theorem q03:∀ (n:Nat) (l:qa) (k a N:Nat),l.length≤n→(l=[]∨a+l.length=N)→cutL (ku k a l) N=((z1 N l:Nat):Int)
 |n,l,k,a,N,hn,ha=>by
  by_cases h:l=[]
  ·subst h
   rw [y7,qdh]
   try rfl
  ·have hlt:=wi (c:=10) h
   have hle:a+l.length=N:=ha.resolve_left h
   cases n with
   |zero=>omega
   |succ n=>
    rw [y9 h,cutL]
    by_cases hb:begF (upto 10 l)=true
    ·rw [if_pos hb,qg7 h hb]
     simp only
     omega
    ·rw [if_neg hb,qio h hb]
     refine q03 n (past 10 l) (k+1) _ N (by omega) ?_
     by_cases h10:10∈l
     ·right
      have e:=congrArg List.length (vk h10)
      simp only [List.length_append,List.length_cons,List.length_nil] at e
      omega
     ·left
      unfold past
      rw [wm h10]
      exact List.drop_eq_nil_of_le (by omega)
theorem qyx (text:qa):∃ its,qc9 text = .tu [ya its,Iv (vp text).pos,Iv (vp text).code]:=by
 unfold qc9 vp
 split
 ·exact⟨[],rfl⟩
 ·rcases (js text).1 with _ | ⟨a,n⟩
  ·exact⟨_,rfl⟩
  ·exact⟨[],rfl⟩
def qbp (x:ErrV×xz):AV:=.tu [qg8 x.2,Iv x.1.pos,Iv x.1.code]
theorem qve (x:ErrV×xz):Pure (qbp x):=qh8 (qqi _) (qx _) (qx _)
theorem qyz (text:qa) (b:xz) (st:List AObj) (h1:text.length<1000000) (h2:b.tail.length<1000000):qn E 107 [Sv text,qg8 b] st fun r st'=>r=Iv ((text.length:Int) - (b.tail.length:Int))∧st'=st:=by
 refine jo [.s text,.a (qg8 b)] (qx _) Tryz.func107 rfl rfl (fun _=>rfl) rfl fun S0=>?_
 apply ql []
 repeat' (first|apply And.intro|(intro h;try exact cDd)|exact cSd|apply qg []|refine exr ?_|refine qp ?_)
theorem qli:∀ (r:List (qa×Bool)) (i:Nat) (prev:Bool) (now:ka) (rec:Int) (out:List ka) (e:Int×Int),(refL i r prev now rec out).1=some e→e.2≠0
 | [],i,prev,now,rec,out,e,h=>by simp [refL] at h
 |(t,b)::r,i,prev,now,rec,out,e,h=>by
  rw [refL] at h
  split at h
  ·rename_i hw
   simp only [Option.some.injEq] at h
   subst h
   exact hw
  ·split at h
   ·exact qli r _ _ _ _ _ e h
   ·split at h
    ·exact qli r _ _ _ _ _ e h
    ·exact qli r _ _ _ _ _ e h
theorem qlb {text:qa} {n:Int} (h:vp text = .num n):n=1:=by
 unfold vp at h
 split at h
 ·simpa using h.symm
 ·split at h <;> simp at h
theorem qm3 {text:qa} {a n:Int} (h:vp text = .at' a n):n≠0:=by
 unfold vp at h
 split at h
 ·simp at h
 ·split at h
  ·simp at h
  ·rename_i a' n' hp
   simp only [ErrV.at'.injEq] at h
   rw [← h.2]
   have:=qjo text
   exact qli _ _ _ _ _ _ (a',n') (by rw [this];exact hp)
theorem q6s (text:qa) (hl:text.length<1000000):∃ its p n,(∀ st,qn E 78 [Sv text] st fun r st'=>r = .tu [ya its,Iv p,Iv n]∧st'=st)∧p=(vp text).pos∧n=(vp text).code∧(n=0↔vp text = .no):=by
 obtain⟨its,hits⟩:=qyx text
 refine⟨its,_,_,fun st=>by rw [← hits];exact qyw text st hl,rfl,rfl,?_⟩
 cases hpe:vp text with
 |no=>simp [ErrV.code]
 |num n=>have:=qlb hpe;simp [ErrV.code];omega
 |at' a n=>have:=qm3 hpe;simp [ErrV.code];omega
theorem qyr (x:Option (List qr)):∃ b o,qb1 x = .tu [jm b,Bv o]:=by
 cases x with
 |none=>exact⟨[],false,rfl⟩
 |some b=>exact⟨b,true,rfl⟩
set_option maxHeartbeats 1000000 in
theorem q0g (text:qa) (st:List AObj) (hl:text.length<1000000):qn E 105 [Sv text] st fun r st'=>r=qbp (kg text)∧st'=st:=by
 refine jo [.s text] (qve _) Tryz.func105 rfl rfl (fun _=>rfl) rfl fun S0=>?_
 by_cases hbig:120000<text.length
 ·have e:kg text=(.num 1,qa9):=if_pos hbig
  rw [e]
  apply ql []
  repeat' (first|apply And.intro|(intro h;try exact cDd)|exact cSd|apply qg []|refine exr ?_|refine qp ?_)
 have hsp:=qgh text
 have hrl:(vo text).2.length≤text.length:=by
  conv=>rhs;rw [hsp.1]
  simp
 have hbl:=qmd (vo text).2
 obtain⟨g,rest,htk⟩:∃ g rest,vo text=(g,rest):=⟨_,_,rfl⟩
 have hF:kg text=match vp (rest.take (z1 rest.length rest)) with
   | .no=>if (Go.Pl.recsF (text.length+1) (rest.drop (z1 rest.length rest)) (((text.length - rest.length+z1 rest.length rest:Nat)):Int) [] []).1=true then (.at' (Go.Pl.recsF (text.length+1) (rest.drop (z1 rest.length rest)) (((text.length - rest.length+z1 rest.length rest:Nat)):Int) [] []).2.1.length 10,qa9)
    else (.no,⟨g,rest.take (z1 rest.length rest),(Go.Pl.recsF (text.length+1) (rest.drop (z1 rest.length rest)) (((text.length - rest.length+z1 rest.length rest:Nat)):Int) [] []).2.1,(Go.Pl.recsF (text.length+1) (rest.drop (z1 rest.length rest)) (((text.length - rest.length+z1 rest.length rest:Nat)):Int) [] []).2.2.1,(Go.Pl.recsF (text.length+1) (rest.drop (z1 rest.length rest)) (((text.length - rest.length+z1 rest.length rest:Nat)):Int) [] []).2.2.2⟩)
   |e=>(e,qa9):=by
  unfold kg
  rw [if_neg hbig]
  unfold qci qd8 atH qbj
  rw [htk]
  try rfl
 have htk2:∀ st,qn E 177 [Sv text] st fun r st'=>r = .tu [Iv g,Sv rest]∧st'=st:=fun st=>by
  have:=q0i text st hl
  rw [htk] at this
  exact this
 rw [htk] at hrl hbl hsp
 simp only at hrl hbl hsp
 have hdr:rest.drop (z1 rest.length rest)=text.drop (text.length - rest.length+z1 rest.length rest):=by
  have h1:text.length=(wd g).length+rest.length:=by
   have:=congrArg List.length hsp.1
   simpa using this
  conv=>rhs;rhs;rw [hsp.1]
  rw [← List.drop_drop,show text.length - rest.length=(wd g).length by omega,List.drop_left]
 rw [hdr] at hF
 clear hdr hsp htk
 have hspl:=fun st=>qhl rest st (by omega)
 have hcut:cutL (lns rest) rest.length=((z1 rest.length rest:Nat):Int):=q03 _ rest 0 0 rest.length (Nat.le_refl _) (.inr (by omega))
 have hLl:(lns rest).length≤rest.length:=qb7 _ rest 0 0 (Nat.le_refl _)
 have hLv:∀ x∈lns rest,x.text.length≤rest.length:=fun x hx=>qrc _ rest 0 0 (Nat.le_refl _) x hx
 generalize lns rest=L at hspl hcut hLl hLv
 generalize z1 rest.length rest=a at hF hbl hcut
 have hml:(L.map lnA).length=L.length:=by simp
 apply ql []
 repeat' (first|apply And.intro|(intro h;try exact cDd)|exact⟨Tryz.call177⟩|refine cpe htk2 ?_|exact⟨Tryz.call137⟩|refine cpe hspl ?_|exact cSd|apply qg []|refine exr ?_|refine qp ?_)
 refine vm (X:=Nat) (fun k=>⟨[(0,.s text),(2,.bx 0 0),(5,.i g),(6,.s rest),(7,.a (lnsA L)),(8,.i (cutL (L.drop k) rest.length)),(9,.i ((k:Int) - 1))],[(0,some (.cells 115 [.i 0,.s [],.a zu,.a zu,.s []]))],1⟩) (fun k=>k≤L.length) (fun k=>k) L.length (Nat.le_refl _) ?_ ?_
 ·skip
  repeat' (first|apply And.intro|(intro h;try exact cDd)|exact cSd|apply qg []|refine exr ?_|refine qp ?_)
  all_goals first|(simp [cutL];done)
 ·intro k hk
  cases k with
  |succ j=>
   obtain⟨x,hx⟩:∃ x,L[j]? = some x:=⟨_,List.getElem?_eq_getElem (by omega)⟩
   have hgx:=qhq hx
   have hxv:=hLv x (List.mem_of_getElem? hx)
   have hbe:=fun st=>qyn x.text st (by omega)
   have hdj:L.drop j=x::L.drop (j+1):=by
    obtain⟨hlt,e⟩:=List.getElem?_eq_some_iff.1 hx
    rw [List.drop_eq_getElem_cons hlt,e]
   apply ql []
   repeat' (first|apply And.intro|(intro h;try exact cDd)|exact⟨Tryz.call178⟩|refine cpe hbe ?_|(refine Exists.intro (j) ⟨by omega,_,hgx,?_⟩)|(refine Exists.intro j ⟨by omega,by omega,?_⟩)|exact cSd|apply qg []|refine exr ?_|refine qp ?_)
   all_goals first|(simp [hdj,cutL,begF, *];done)
  |zero=>
   have hc0:cutL (L.drop 0) rest.length=(a:Int):=by rw [List.drop_zero];exact hcut
   simp only [hc0]
   obtain⟨its,p,n,hpa,hp,hn,hn0⟩:=q6s (rest.take a) (by simp;omega)
   have hsub:((text.length:Int) - (rest.length:Int))+(a:Int)=((text.length - rest.length+a:Nat):Int):=by omega
   by_cases hz:n=0
   ·rw [hn0.1 hz] at hF
    simp only at hF
    apply ql []
    repeat' (first|apply And.intro|(intro h;try exact cDd)|exact⟨Tryz.call78⟩|refine cpe hpa ?_|exact cSd|apply qg []|refine exr ?_|refine qp ?_)
    refine vm (X:=Nat×Nat×List (List qr)×List Int) (fun (k,f,bs,es)=>⟨[(0,.s text),(2,.bx 0 0),(10,.bx 1 0),(14,.i k)],
      [(0,some (.cells 115 [.i 0,.s [],.a zu,.a zu,.s []])),(1,some (.cells 115 [.i g,.s (rest.take a),.tp 2,.tp 3,.s []])),(2,some (.tip 1 90 (bs.map jm))),(3,some (.tip 1 3 (es.map fun x=>Iv x)))],4⟩)
     (fun (k,f,bs,es)=>k≤text.length∧text.length - k<f∧Go.Pl.recsF f (text.drop k) k bs es=Go.Pl.recsF (text.length+1) (text.drop (text.length - rest.length+a)) ((text.length - rest.length+a:Nat):Int) [] []∧bs.length≤k∧es.length≤k) (fun x=>text.length - x.1) (text.length - rest.length+a,text.length+1,[],[])
     ⟨by omega,by omega,rfl,by simp,by simp⟩ ?_ ?_
    ·skip
     repeat' (first|apply And.intro|(intro h;try exact cDd)|exact cSd|apply qg []|refine exr ?_|refine qp ?_)
     all_goals first|(simp [hsub];done)
    ·rintro⟨k,f,bs,es⟩ ⟨hk,hf,hR,hbl2,hel⟩
     generalize Go.Pl.recsF (text.length+1) (text.drop (text.length - rest.length+a)) ((text.length - rest.length+a:Nat):Int) [] []=R at hF hR
     obtain⟨f,rfl⟩:∃ f',f=f'+1:=⟨f - 1,by omega⟩
     have hrd:=fun st=>q6t (text.drop k) st (by simp;omega)
     have hll:(text.drop k).length=text.length - k:=by simp
     have hbd:=ql1 (l:=text.drop k)
     have hde:=fun st=>q0d (zd (text.drop k)).2.1 st (by omega)
     rcases qrn (text.drop k) with h1|h2|h3
     ·rw [h1] at hrd
      obtain⟨n',hn',hn0',hnl⟩:=quh h1
      cases hdd:decF (zd (text.drop k)).2.1 with
      |none=>
       rw [qui h1 hdd] at hR
       rw [hdd] at hde
       rw [← hR] at hF
       rw [hF]
       apply ql []
       repeat' (first|apply And.intro|(intro h;try exact cDd)|exact⟨Tryz.call179⟩|refine cpe hrd ?_|exact⟨Tryz.call180⟩|refine cpe hde ?_|exact cSd|apply qg []|refine exr ?_|refine qp ?_)
       all_goals first|(simp [qbp,qa9,ErrV.pos,ErrV.code];done)|(rw [← hR,List.drop_drop,Int.natCast_add];done)|(rw [← hR,List.drop_drop,Int.natCast_add];rfl)
      |some b=>
       rw [qrq h1 hdd hn'] at hR
       rw [hdd] at hde
       rw [hn'] at hrd
       apply ql []
       repeat' (first|apply And.intro|(intro h;try exact cDd)|exact⟨Tryz.call179⟩|refine cpe hrd ?_|exact⟨Tryz.call180⟩|refine cpe hde ?_|(refine Exists.intro (k+n',f,bs++[b],es++[((k+n':Nat):Int)]) ⟨?_,by simp only;omega,?_⟩)|exact cSd|apply qg []|refine exr ?_|refine qp ?_)
       all_goals first|(simp [qbp,qa9,ErrV.pos,ErrV.code];done)|(rw [← hR,List.drop_drop,Int.natCast_add];done)|(rw [← hR,List.drop_drop,Int.natCast_add];rfl)
     ·rw [h2] at hrd
      rw [qrr h2] at hR
      rw [← hR] at hF
      rw [hF]
      apply ql []
      repeat' (first|apply And.intro|(intro h;try exact cDd)|exact⟨Tryz.call179⟩|refine cpe hrd ?_|exact⟨Tryz.call180⟩|refine cpe hde ?_|exact cSd|apply qg []|refine exr ?_|refine qp ?_)
      all_goals first|(simp [qbp,qa9,ErrV.pos,ErrV.code];done)|(rw [← hR,List.drop_drop,Int.natCast_add];done)|(rw [← hR,List.drop_drop,Int.natCast_add];rfl)
     ·rw [h3] at hrd
      rw [quj h3] at hR
      rw [← hR] at hF
      rw [hF]
      obtain⟨b',o',hbo⟩:=qyr (decF (zd (text.drop k)).2.1)
      rw [hbo] at hde
      apply ql []
      repeat' (first|apply And.intro|(intro h;try exact cDd)|exact⟨Tryz.call179⟩|refine cpe hrd ?_|exact⟨Tryz.call180⟩|refine cpe hde ?_|exact cSd|apply qg []|refine exr ?_|refine qp ?_)
      all_goals first|(simp [qbp,qa9,ErrV.pos,ErrV.code];done)|(rw [← hR,List.drop_drop,Int.natCast_add];done)|(rw [← hR,List.drop_drop,Int.natCast_add];rfl)
   ·have e:kg text=(vp (rest.take a),qa9):=by
     rw [hF]
     cases hpe:vp (rest.take a) with
     |no=>exact absurd (hn0.2 hpe) hz
     | _=>rfl
    rw [e]
    unfold qbp
    simp only
    rw [← hp,← hn]
    apply ql []
    repeat' (first|apply And.intro|(intro h;try exact cDd)|exact⟨Tryz.call78⟩|refine cpe hpa ?_|exact cSd|apply qg []|refine exr ?_|refine qp ?_)
    all_goals first|(simp [qbp,qa9,ErrV.pos,ErrV.code];done)|(rw [← hR,List.drop_drop,Int.natCast_add];done)|(rw [← hR,List.drop_drop,Int.natCast_add];rfl)
theorem q2p {text:qa} (h:(kg text).1≠.no):(kg text).1.code≠0:=by
 unfold kg at h ⊢
 split
 ·simp [ErrV.code]
 ·rename_i hb
  rw [if_neg hb] at h
  cases hpe:vp (qd8 text) with
  |no=>
   rw [hpe] at h
   simp only at h ⊢
   split
   ·simp [ErrV.code]
   ·rename_i hr
    rw [if_neg hr] at h
    exact absurd rfl h
  |num n=>have:=qlb hpe;simp [ErrV.code];omega
  |at' a n=>have:=qm3 hpe;simpa [ErrV.code] using this
theorem zbe (x:List qr):∃ p n,(eErr x).pos=p∧(eErr x).code=n∧(n=0↔eErr x = .no):=⟨_,_,rfl,rfl,qc1 x⟩
theorem q3w (text:qa) (x:List qr) (st:List AObj) (hl:text.length<1000000) (hB:∀ y∈x,EdB y) (hx:x.length<1000000):qn E 54 [Sv text,jm x] st fun r st'=>r = .tu [Sv (Go.Pl.appF text x).2,Iv (Go.Pl.appF text x).1.pos,Iv (Go.Pl.appF text x).1.code]∧st'=st:=by
 refine jo [.s text,.a (jm x)] (qh8 (qx _) (qx _) (qx _)) Tryz.func54 rfl rfl (fun _=>rfl) rfl fun S0=>?_
 have hbr:=fun st=>q0g text st hl
 have hbk:kg text=((kg text).1,(kg text).2):=rfl
 by_cases hbe:(kg text).1 = .no
 ·rw [hbe] at hbk
  have hT:=qwo hbk
  obtain⟨hs1,hs2,hs3,hs4,hs5,hs6⟩:=qob hT
  have hA:Go.Pl.appF text x=if eErr x = .no then (if 50000<(encF x).length then (.num 11,[]) else if 120000<xy (kg text).2+(recE x).length then (.num 11,[]) else (.no,text.take (xy (kg text).2).toNat++recE x)) else (eErr x,[]):=by
   unfold Go.Pl.appF
   rw [hbe]
   cases eErr x <;> simp
  rw [hA]
  rw [hbk] at hbr
  generalize (kg text).2=b at hbr hT hs1 hs2 hs3 hs4 hs5 hs6
  unfold qbp at hbr
  have hwh:=fun st=>qyz text b st hl hs2
  have hwe:(text.length:Int) - (b.tail.length:Int)=((ye b).length:Int):=by omega
  rw [hwe] at hwh
  simp only [hs4,Int.toNat_natCast]
  have htl:=hT.len
  have hck:=fun st=>qm6 x st hB (by omega)
  by_cases hee:eErr x = .no
  ·rw [if_pos hee]
   rw [hee] at hck
   have hen:=fun st=>ql2 x st hB hee
   have hlt:=fun st=>qov (encF x).length st
   by_cases h5:50000<(encF x).length
   ·rw [if_pos h5]
    apply ql []
    repeat' (first|apply And.intro|(intro h;try exact cDd)|exact⟨Tryz.call105⟩|refine cpe hbr ?_|exact⟨Tryz.call96⟩|refine cpe hck ?_|exact⟨Tryz.call106⟩|refine cpe hen ?_|exact cSd|apply qg []|refine exr ?_|refine qp ?_)
   ·rw [if_neg h5]
    have hgx:qdd x:=⟨hee,hB,by omega⟩
    have hrc:=fun st=>q0h (encF x) st (by omega)
    have hrl:=qrp hgx.good
    have hre:recF (encF x)=recE x:=rfl
    have hle:=qjl (encF x) hgx.good
    rw [← hle] at hlt
    rw [hre] at hrc hrl hlt
    by_cases h12:(120000:Int)<((ye b).length:Int)+((recE x).length:Int)
    ·rw [if_pos h12]
     apply ql []
     repeat' (first|apply And.intro|(intro h;try exact cDd)|exact⟨Tryz.call105⟩|refine cpe hbr ?_|exact⟨Tryz.call96⟩|refine cpe hck ?_|exact⟨Tryz.call106⟩|refine cpe hen ?_|exact⟨Tryz.call108⟩|refine cpe hlt ?_|exact⟨Tryz.call107⟩|refine cpe hwh ?_|exact cSd|apply qg []|refine exr ?_|refine qp ?_)
    ·rw [if_neg h12]
     apply ql []
     repeat' (first|apply And.intro|(intro h;try exact cDd)|exact⟨Tryz.call105⟩|refine cpe hbr ?_|exact⟨Tryz.call96⟩|refine cpe hck ?_|exact⟨Tryz.call106⟩|refine cpe hen ?_|exact⟨Tryz.call108⟩|refine cpe hlt ?_|exact⟨Tryz.call107⟩|refine cpe hwh ?_|exact⟨Tryz.call109⟩|refine cpe hrc ?_|exact cSd|apply qg []|refine exr ?_|refine qp ?_)
  ·rw [if_neg hee]
   obtain⟨p,n,hp,hn,hn0⟩:=zbe x
   have hz:n≠0:=fun h=>hee (hn0.1 h)
   simp only [hp,hn] at hck ⊢
   apply ql []
   repeat' (first|apply And.intro|(intro h;try exact cDd)|exact⟨Tryz.call105⟩|refine cpe hbr ?_|exact⟨Tryz.call96⟩|refine cpe hck ?_|exact cSd|apply qg []|refine exr ?_|refine qp ?_)
 ·have hA:Go.Pl.appF text x=((kg text).1,[]):=by
   unfold Go.Pl.appF
   cases h:(kg text).1 with
   |no=>exact absurd h hbe
   | _=>rfl
  have hz:=q2p hbe
  rw [hA]
  unfold qbp at hbr
  generalize (kg text).2=b at hbr
  generalize (kg text).1.pos=p at hbr
  generalize (kg text).1.code=n at hbr hz
  apply ql []
  repeat' (first|apply And.intro|(intro h;try exact cDd)|exact⟨Tryz.call105⟩|refine cpe hbr ?_|exact cSd|apply qg []|refine exr ?_|refine qp ?_)
end Go.Proofs.YtneejjefekdgjaaGreatDoor
