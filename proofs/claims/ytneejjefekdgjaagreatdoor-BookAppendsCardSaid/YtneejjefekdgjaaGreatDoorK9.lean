/- Contracts and plain facts that the closing text leans on (part 9). No condition of their own beyond those that each states. -/
import Derived.Test.YtneejjefekdgjaaGreatDoorK8
set_option maxRecDepth 100000
set_option linter.unusedVariables false
set_option linter.unusedSimpArgs false
namespace Go.Pl
open Go Go.Proofs Go.Proofs.YtneejjefekdgjaaGreatDoor
theorem ex13:qaz [65,58,32,49,10,37,97,109] ⟨0,[65,58,32,49,10],[],[],[37,97,109]⟩:=by
 have h1:vo [65,58,32,49,10,37,97,109]=(0,[65,58,32,49,10,37,97,109]):=by decide +kernel
 have h2:(js [65,58,32,49,10]).1=none:=by decide +kernel
 have h3:(zd [37,97,109]).1=2:=by decide +kernel
 refine⟨by decide +kernel,h1,?_,nofun,h3,rfl,by simp⟩
 unfold vp
 rw [if_neg (by simp),h2]
theorem q76 (text:qa):okE (kg text).1:=by
 unfold kg
 split
 ·simp [okE]
 ·split
  ·split <;> simp [okE]
  ·cases hp:vp (qd8 text) with
   |no=>simp [okE]
   |num n=>have:=qlb hp;simp [okE];omega
   |at' a n=>have:=qm3 hp;simpa [okE] using this
end Go.Pl
namespace Go.Proofs.YtneejjefekdgjaaGreatDoor
open Go Go.Av Go.RowKit Go.Proofs Go.Pl
theorem za4 (b:xz) (st:List AObj) (hb:b.base.length<1000000) (he:b.ends.length<1000000) (ht:b.tail.length<1000000) (h1:0≤xy b) (h2:xy b≤1000000000):qn E 100 [qg8 b] st fun r st'=>r=Iv (xy b+b.tail.length)∧st'=st:=by
 have hw:=fun st=>qo5 b st hb he
 have _h13:Nat:=51
 refine jo [.a (qg8 b)] (qx _) Tryz.func100 rfl rfl (fun _=>rfl) rfl fun S0=>?_
 apply ql []
 repeat' (first|apply And.intro|(intro h;try exact cDd)|exact⟨Tryz.call101⟩|refine cpe hw ?_|exact cSd|apply qg []|refine exr ?_|refine qp ?_)
theorem q4k (st:List AObj):qn E 51 [] st fun r st'=>r=Bv true∧st'=st:=by
 have hb:=za2 ex13
 have hrd:=fun st=>q0z [65,58,32,49,10,37,97,109] st (by simp)
 rw [hb] at hrd
 have hw:=fun st=>qo5 ⟨0,[65,58,32,49,10],[],[],[37,97,109]⟩ st (by simp) (by simp)
 have hs:=fun st=>za4 ⟨0,[65,58,32,49,10],[],[],[37,97,109]⟩ st (by simp) (by simp) (by simp) (by decide +kernel) (by decide +kernel)
 rw [show xy ⟨0,[65,58,32,49,10],[],[],[37,97,109]⟩=5 by decide +kernel] at hw hs
 refine jo [] (qx _) Tryz.func51 rfl rfl (fun _=>rfl) rfl fun S0=>?_
 apply ql []
 repeat' (first|apply And.intro|(intro h;try exact cDd)|exact⟨Tryz.call22⟩|refine cpe hrd ?_|exact⟨Tryz.call100⟩|refine cpe hs ?_|exact⟨Tryz.call101⟩|refine cpe hw ?_|exact cSd|apply qg []|refine exr ?_|refine qp ?_)
def qhh:List Fld→Int→Int→Bool
 | [],_,_=>false
 |f::r,i,n=>if 60<i∨6000<n+(min (f.1.length:Int) 10000+min (f.2.length:Int) 10000) then true else qhh r (i+1) (n+(min (f.1.length:Int) 10000+min (f.2.length:Int) 10000))
def qd3:List qr→Int→Bool
 | [],_=>false
 |x::r,i=>if 50<i then true else if qhh x.fields 0 0=true then true else qd3 r (i+1)
theorem qrd:∀ (fs:List Fld) (i n:Int),0≤n→n≤6000→0≤i→qhh fs i n=false→fs.length≤(61 - i).toNat∧∀ f∈fs,f.1.length≤6000∧f.2.length≤6000
 | [],i,n,_,_,_,_=>by simp
 |f::r,i,n,h0,h1,h2,h=>by
  rw [qhh] at h
  split at h
  ·simp at h
  ·obtain⟨g1,g2⟩:=qrd r _ _ (by omega) (by omega) (by omega) h
   simp only [List.length_cons]
   refine⟨by omega,fun g hg=>?_⟩
   rcases List.mem_cons.1 hg with rfl|hg
   ·omega
   ·exact g2 g hg
theorem qon:∀ (b:List qr) (i:Int),0≤i→qd3 b i=false→b.length≤(51 - i).toNat∧∀ x∈b,q98 x.fields
 | [],_,_,_=>by simp
 |x::r,i,h0,h=>by
  rw [qd3] at h
  split at h
  ·simp at h
  ·split at h
   ·simp at h
   ·rename_i hm
    obtain⟨g1,g2⟩:=qon r _ (by omega) h
    simp only [List.length_cons]
    refine⟨by omega,fun y hy=>?_⟩
    rcases List.mem_cons.1 hy with rfl|hy
    ·obtain⟨k1,k2⟩:=qrd y.fields 0 0 (by omega) (by omega) (by omega) (by simpa using hm)
     exact⟨by omega,fun f hf=>by have:=k2 f hf;omega⟩
    ·exact g2 y hy
theorem qxj {b:List qr} (h:qd3 b 0=false):q4f b:=by
 obtain⟨h1,h2⟩:=qon b 0 (by omega) h
 exact⟨by omega,h2⟩
theorem zbw (fs:List Fld) (st:List AObj) (hf:fs.length<9223372036854775808):qn E 87 [jj fs] st fun r st'=>r=Bv (qhh fs 0 0)∧st'=st:=by
 refine jo [.a (jj fs)] (qx _) Tryz.func87 rfl rfl (fun _=>rfl) rfl fun S0=>?_
 have hm:(fs.map fldA).length=fs.length:=by simp
 apply ql []
 repeat' (first|apply And.intro|(intro h;try exact cDd)|exact cSd|apply qg []|refine exr ?_|refine qp ?_)
 refine vm (X:=Nat×Int) (fun (k,n)=>⟨[(3,.i n),(6,.a (jj fs)),(7,.i fs.length),(8,.i k)],[],0⟩) (fun (k,n)=>k≤fs.length∧k≤61∧0≤n∧n≤6000∧qhh (fs.drop k) k n=qhh fs 0 0) (fun x=>fs.length - x.1) (0,0) ⟨by omega,by omega,by omega,by omega,rfl⟩ ?_ ?_
 ·skip
  repeat' (first|apply And.intro|(intro h;try exact cDd)|exact cSd|apply qg []|refine exr ?_|refine qp ?_)
  all_goals first|(simp;done)
 ·rintro⟨k,n⟩ ⟨hk,hk2,h0,h1,h⟩
  by_cases hc:k<fs.length
  ·obtain⟨f,hx⟩:∃ f,fs[k]? = some f:=⟨_,List.getElem?_eq_getElem hc⟩
   have hg:(fs.map fldA)[k]? = some (fldA f):=by simp [hx]
   have hd:fs.drop k=f::fs.drop (k+1):=by
    obtain⟨hlt,e⟩:=List.getElem?_eq_some_iff.1 hx
    rw [List.drop_eq_getElem_cons hlt,e]
   rw [hd,qhh] at h
   apply ql []
   repeat' (first|apply And.intro|(intro h;try exact cDd)|(refine Exists.intro (k) ⟨by omega,_,hg,?_⟩)|(refine Exists.intro (k+1,n+(min (f.1.length:Int) 10000+min (f.2.length:Int) 10000)) ⟨⟨by omega,by omega,by omega,by omega,?_⟩,by simp only;omega,?_⟩)|exact cSd|apply qg []|refine exr ?_|refine qp ?_)
   all_goals first|grind|(simp;done)
  ·have hd:fs.drop k=[]:=List.drop_eq_nil_of_le (by omega)
   rw [hd,qhh] at h
   apply ql []
   repeat' (first|apply And.intro|(intro h;try exact cDd)|exact cSd|apply qg []|refine exr ?_|refine qp ?_)
   all_goals first|grind|(simp [*];done)
theorem q8u (b:List qr) (st:List AObj) (hb:b.length<9223372036854775808) (hf:∀ x∈b,x.fields.length<9223372036854775808):qn E 42 [jm b] st fun r st'=>r=Bv (qd3 b 0)∧st'=st:=by
 refine jo [.a (jm b)] (qx _) Tryz.func42 rfl rfl (fun _=>rfl) rfl fun S0=>?_
 have hm:(b.map q8).length=b.length:=by simp
 apply ql []
 repeat' (first|apply And.intro|(intro h;try exact cDd)|exact cSd|apply qg []|refine exr ?_|refine qp ?_)
 refine vm (X:=Nat) (fun k=>⟨[(5,.a (jm b)),(6,.i b.length),(7,.i k)],[],0⟩) (fun k=>k≤b.length∧k≤51∧qd3 (b.drop k) k=qd3 b 0) (fun x=>b.length - x) 0 ⟨by omega,by omega,rfl⟩ ?_ ?_
 ·skip
  repeat' (first|apply And.intro|(intro h;try exact cDd)|exact cSd|apply qg []|refine exr ?_|refine qp ?_)
  all_goals first|(simp;done)
 ·rintro k ⟨hk,hk2,h⟩
  by_cases hc:k<b.length
  ·obtain⟨x,hx⟩:∃ x,b[k]? = some x:=⟨_,List.getElem?_eq_getElem hc⟩
   have hg:(b.map q8)[k]? = some (q8 x):=by simp [hx]
   have hd:b.drop k=x::b.drop (k+1):=by
    obtain⟨hlt,e⟩:=List.getElem?_eq_some_iff.1 hx
    rw [List.drop_eq_getElem_cons hlt,e]
   rw [hd,qd3] at h
   have hmu:=fun st=>zbw x.fields st (hf x (List.mem_of_getElem? hx))
   apply ql []
   repeat' (first|apply And.intro|(intro h;try exact cDd)|exact⟨Tryz.call87⟩|refine cpe hmu ?_|(refine Exists.intro (k) ⟨by omega,_,hg,?_⟩)|(refine Exists.intro (k+1) ⟨⟨by omega,by omega,?_⟩,by omega,?_⟩)|exact cSd|apply qg []|refine exr ?_|refine qp ?_)
   all_goals first|grind|(simp;done)
  ·have hd:b.drop k=[]:=List.drop_eq_nil_of_le (by omega)
   rw [hd,qd3] at h
   apply ql []
   repeat' (first|apply And.intro|(intro h;try exact cDd)|exact cSd|apply qg []|refine exr ?_|refine qp ?_)
   all_goals first|grind|(simp [*];done)
theorem zar (text:qa) (x:List qr):okE (Go.Pl.appF text x).1:=by
 have h1:=q76 text
 unfold Go.Pl.appF
 split
 ·split
  ·split
   ·simp [okE]
   ·split <;> simp [okE]
  ·have:=qc1 x
   cases h:eErr x with
   |no=>simp [okE]
   |num n=>rw [h] at this;simpa [okE,ErrV.code] using this
   |at' p n=>rw [h] at this;simpa [okE,ErrV.code] using this
 ·exact h1
theorem qu7 (text:qa) (x:List qr) (st:List AObj) (hA:ArgE x):qn E 10 [Sv text,jm x] st fun r st'=>r=Bv true∧st'=st:=by
 refine jo [.s text,.a (jm x)] (qx _) Tryz.func10 rfl rfl (fun _=>rfl) rfl fun S0=>?_
 have hal:=q4k
 have hhv:=fun st=>q8u x st hA.1 fun y hy=>(hA.2 y hy).1
 by_cases h5:5000<text.length
 ·apply ql []
  repeat' (first|apply And.intro|(intro h;try exact cDd)|exact⟨Tryz.call51⟩|refine cpe hal ?_|exact cSd|apply qg []|refine exr ?_|refine qp ?_)
 ·cases hh:qd3 x 0 with
  |true=>
   rw [hh] at hhv
   apply ql []
   repeat' (first|apply And.intro|(intro h;try exact cDd)|exact⟨Tryz.call51⟩|refine cpe hal ?_|exact⟨Tryz.call42⟩|refine cpe hhv ?_|exact cSd|apply qg []|refine exr ?_|refine qp ?_)
  |false=>
   rw [hh] at hhv
   have hL:=qxj hh
   have hB:=zbp hA hL
   have hx:=hL.1
   have hfl:∀ y∈x,y.fields.length<1000000:=fun y hy=>(hL.2 y hy).len
   have how:=fun st=>zd0 x st (by omega) hfl
   have hap:=fun st=>zcq text x st (by omega) hB (by omega)
   have hra:=fun st=>q3w text x st (by omega) hB (by omega)
   have hok:=zar text x
   have hat:=fun st=>zdw (Go.Pl.appF text x).1 st
   have hnm:=fun st=>zdb (Go.Pl.appF text x).1 st hok
   have hed:=fun st=>q8m x x st (by omega) (fun y hy=>by have:=hfl y hy;omega)
   rw [q1x rfl] at hed
   cases hb:Go.Pl.appF text x with
   |mk e s=>
   rw [hb] at hap hra hat hnm hok
   cases e with
   |num n=>
    simp only [ErrV.code,ErrV.pos] at hap hra hat hnm
    apply ql []
    repeat' (first|apply And.intro|(intro h;try exact cDd)|exact⟨Tryz.call51⟩|refine cpe hal ?_|exact⟨Tryz.call42⟩|refine cpe hhv ?_|exact⟨Tryz.call52⟩|refine cpe how ?_|exact⟨Tryz.call53⟩|refine cpe hap ?_|exact⟨Tryz.call54⟩|refine cpe hra ?_|exact⟨Tryz.call16⟩|refine cpe hnm ?_|exact⟨Tryz.call17⟩|refine cpe hat ?_|exact⟨Tryz.call55⟩|refine cpe hed ?_|exact cSd|apply qg []|refine exr ?_|refine qp ?_)
    all_goals first|(simp;done)|grind
   |at' p n=>
    simp only [ErrV.code,ErrV.pos] at hap hra hat hnm
    apply ql []
    repeat' (first|apply And.intro|(intro h;try exact cDd)|exact⟨Tryz.call51⟩|refine cpe hal ?_|exact⟨Tryz.call42⟩|refine cpe hhv ?_|exact⟨Tryz.call52⟩|refine cpe how ?_|exact⟨Tryz.call53⟩|refine cpe hap ?_|exact⟨Tryz.call54⟩|refine cpe hra ?_|exact⟨Tryz.call16⟩|refine cpe hnm ?_|exact⟨Tryz.call17⟩|refine cpe hat ?_|exact⟨Tryz.call55⟩|refine cpe hed ?_|exact cSd|apply qg []|refine exr ?_|refine qp ?_)
    all_goals first|(simp;done)|grind
   |no=>
    simp only [ErrV.code,ErrV.pos] at hap hra hat hnm
    apply ql []
    repeat' (first|apply And.intro|(intro h;try exact cDd)|exact⟨Tryz.call51⟩|refine cpe hal ?_|exact⟨Tryz.call42⟩|refine cpe hhv ?_|exact⟨Tryz.call52⟩|refine cpe how ?_|exact⟨Tryz.call53⟩|refine cpe hap ?_|exact⟨Tryz.call54⟩|refine cpe hra ?_|exact⟨Tryz.call16⟩|refine cpe hnm ?_|exact⟨Tryz.call17⟩|refine cpe hat ?_|exact⟨Tryz.call55⟩|refine cpe hed ?_|exact cSd|apply qg []|refine exr ?_|refine qp ?_)
    all_goals first|(simp;done)|grind
theorem qu6 (text:qa) (x:List qr) (hA:ArgE x) (st:List AObj):qn E 10 [Sv text,jm x] st fun r st'=>r=Bv true∧st'=st:=qu7 text x st hA
end Go.Proofs.YtneejjefekdgjaaGreatDoor
namespace Go.Pl
open Go Go.Proofs
structure EntV where
 x:ka
 id:Int
structure x8 where
 ents:List EntV
 next:Int
 many:Int
def zdc (l:x8) (x:ka):x8:=if x.kind=3 then⟨l.ents++[⟨x,l.next⟩],l.next+1,l.many+1⟩ else⟨l.ents++[⟨x,0⟩],l.next,l.many⟩
def ofF (its:List ka):x8:=its.foldl zdc ⟨[],1,0⟩
end Go.Pl
namespace Go.Proofs.YtneejjefekdgjaaGreatDoor
open Go Go.Av Go.RowKit Go.Proofs Go.Pl
theorem qlk:∀ (n:Nat) (rest:qa) (k:Nat) (p:PSt),rest.length≤n→PB (4 * k) p→k+rest.length≤60000→(runL k (zr rest) p).2.items.length≤300000:=by
 have nil:∀ (k:Nat) (p:PSt),PB (4 * k) p→k≤60000→(runL k (zr []) p).2.items.length≤300000:=fun k p hB hk=>by
  have e:jn p 0 [] true 1=endP p:=rfl
  have h:=qig (no:=0) (text:=[]) (ended:=true) (kind:=1) hB (by omega) (by simp)
  rw [e] at h
  have e2:runL k (zr []) p=endP p:=by rw [wh];rfl
  rw [e2]
  have:=h.items
  omega
 intro n
 induction n with
 |zero=>
  intro rest k p hr hB hk
  obtain rfl:rest=[]:=List.eq_nil_of_length_eq_zero (by omega)
  exact nil k p hB (by simpa using hk)
 |succ n ih=>
  intro rest k p hr hB hk
  by_cases hne:rest=[]
  ·subst hne
   exact nil k p hB (by simpa using hk)
  ·have hu:=kv 10 rest
   have hpl:=kq 10 rest
   have hr0:0<rest.length:=List.length_pos_iff.2 hne
   rw [wc hne]
   simp only [runL]
   have hB2:=qza (no:=k) (text:=upto 10 rest) (ended:=decide (10∈rest)) hB (by omega) (by omega)
   split
   ·have:=hB.items
    simp only
    omega
   ·exact ih (past 10 rest) (k+1) _ (by omega) hB2 (by omega)
end Go.Proofs.YtneejjefekdgjaaGreatDoor
namespace Go.Pl
open Go Go.Proofs
def q1c (id:Int):Nat→List EntV→Int
 | _,[]=> -1
 |k,e::r=>if e.id=id then (k:Int) else q1c id (k+1) r
def atF (l:x8) (id:Int):Int:=if id<1 then -1 else q1c id 0 l.ents
def q6k (fs:List Fld):ka:=if wr fs = .no then⟨3,jt fs,fs⟩ else⟨0,[],[]⟩
def zd5 (l:x8) (i:Nat) (x:ka):x8:=match l.ents[i]? with
 |some e=>⟨l.ents.set i ⟨x,e.id⟩,l.next,l.many⟩
 |none=>l
def zd4 (l:x8) (id:Int) (fs:List Fld):ErrV×x8:=if atF l id<0 then (.num 7,l) else if wr fs = .no then (.no,zd5 l (atF l id).toNat (q6k fs)) else (wr fs,l)
def delL (l:x8) (i:Nat):x8:=⟨l.ents.take i++l.ents.drop (i+1),l.next,l.many - 1⟩
def delF (l:x8) (id:Int):ErrV×x8:=if atF l id<0 then (.num 7,l) else (.no,delL l (atF l id).toNat)
def insL (l:x8) (k:Nat) (x:ka):x8:=⟨l.ents.take k++⟨x,l.next⟩::l.ents.drop k,l.next+1,l.many+1⟩
def insF (l:x8) (id:Int) (fs:List Fld):Int×ErrV×x8:=
 if atF l id<0∧id≠0 then (0,.num 7,l) else if wr fs = .no then (if 400≤l.many then (0,.num 11,l) else (l.next,.no,insL l (atF l id+1).toNat (q6k fs))) else (0,wr fs,l)
end Go.Pl
namespace Go.Proofs.YtneejjefekdgjaaGreatDoor
open Go Go.Av Go.RowKit Go.Proofs Go.Pl
def oneF (l:x8) (x:qr):Int×ErrV×x8:=if x.kind=1 then (0,zd4 l x.id x.fields) else if x.kind=2 then (0,delF l x.id) else insF l x.id x.fields
def q5d:Nat→List qr→x8→List Int→ErrV×x8×List Int
 | _,[],l,ids=>(.no,l,ids)
 |k,x::r,l,ids=>if (oneF l x).2.1 = .no then q5d (k+1) r (oneF l x).2.2 (if 0<(oneF l x).1 then ids++[(oneF l x).1] else ids) else (.at' k (oneF l x).2.1.code,l,ids)
def doF (l:x8) (b:List qr):ErrV×x8×List Int:=if eErr b = .no then q5d 0 b l [] else (eErr b,l,[])
structure RunV where
 l:x8
 given:List (List Int)
 touched:List Int
def zdp (b:List qr):List Int:=(b.filter fun x=>decide (x.kind≠3)).map fun x=>x.id
def zea (r:RunV) (b:List qr):RunV:=⟨(doF r.l b).2.1,r.given++[(doF r.l b).2.2],r.touched++zdp b⟩
def qyg:List (List qr)→RunV→ErrV×RunV
 | [],r=>(.no,r)
 |b::q,r=>if (doF r.l b).1 = .no then qyg q (zea r b) else (.at' r.given.length 10,r)
def zd2 (base:qa) (bs:List (List qr)):ErrV×RunV:=if vp base = .no then qyg bs ⟨ofF (itsE base),[],[]⟩ else (vp base,⟨ofF [],[],[]⟩)
end Go.Proofs.YtneejjefekdgjaaGreatDoor
namespace Go.Pl
open Go Go.Proofs Go.Proofs.YtneejjefekdgjaaGreatDoor
theorem qan (a b:List qa):zn (a++b)=zn a++zn b:=by simp [zn]
def runT (text:qa):RunV:=(zd2 (kg text).2.base (kg text).2.batches).2
end Go.Pl
namespace Go.Pl
open Go Go.Proofs Go.Av Go.Proofs.YtneejjefekdgjaaGreatDoor
def dupS (key:qa) (pre:List (Int×List Fld)) (x:Int×List Fld):Bool:=(qnd key x.2).any fun v=>pre.any fun y=>decide (v∈qnd key y.2)
def q77 (r:qct) (pre:List (Int×List Fld)) (x:Int×List Fld):Prop:=x.2.any (badR r)=true∨(r.kind=1∧cntR r x.2=0)∨(r.kind=2∧1<cntR r x.2)∨(r.kind=7∧dupS r.key pre x=true)
instance (r:qct) (pre:List (Int×List Fld)) (x:Int×List Fld):Decidable (q77 r pre x):=inferInstanceAs (Decidable (_∨(_∧_)∨(_∧_)∨(_∧_)))
end Go.Pl
namespace Go.Pl
open Go
def i64 (n:Int):Prop:= -9223372036854775808≤n∧n≤9223372036854775807
end Go.Pl
