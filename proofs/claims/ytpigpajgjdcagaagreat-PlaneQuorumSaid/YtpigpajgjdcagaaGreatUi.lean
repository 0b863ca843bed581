/- Parts. -/
import Derived.Test.YtpigpajgjdcagaaGreatUh
set_option linter.unusedSimpArgs false
set_option linter.unusedVariables false
set_option maxRecDepth 100000
set_option maxHeartbeats 60000000
namespace Go.Proofs.YtpigpajgjdcagaaGreat
open Go.RowKit
abbrev LogD:=List (Int × EnD)
def tAt (l:LogD) (i:Int):Int:=if 0≤i∧i<l.length then (l.getD i.toNat (0,EnD.of [])).1 else 0
theorem zat (j:JSt) (i:Int):j.termAt i=tAt j.log i:=rfl
structure LogOk (t:Int) (F:LogD):Prop where
 low:∀ x∈F,1≤x.1∧x.1≤t∧shapeB x.2=true
 sorted:F.Pairwise fun x y=>x.1≤y.1
 len:F.length≤4096
theorem zh6 {l F:LogD} (h:l <+: F) {i:Int} (hi:i<l.length):tAt l i=tAt F i:=by
 have hl:=h.length_le
 unfold tAt
 by_cases h0:0≤i
 ·rw [if_pos ⟨h0,hi⟩,if_pos ⟨h0,by omega⟩]
  obtain ⟨r,rfl⟩:=h
  have hi':i.toNat<l.length:=by omega
  simp only [List.getD_eq_getElem?_getD];rw [List.getElem?_append_left hi']
 ·rw [if_neg (by omega),if_neg (by omega)]
theorem zou {F:LogD} {i:Int} (h0:0≤i) (h1:i<F.length):∃ x∈F,tAt F i=x.1:=by
 have hi':i.toNat<F.length:=by omega
 refine ⟨F[i.toNat],List.getElem_mem hi',?_⟩;unfold tAt;rw [if_pos ⟨h0,h1⟩];simp [List.getD_eq_getElem?_getD,hi']
theorem zdm {F:LogD} {i:Int} (h:i<0∨F.length≤i):tAt F i=0:=by unfold tAt;rw [if_neg (by omega)]
theorem zc2 {t:Int} {F:LogD} (h:LogOk t F) (ht:0≤t) (i:Int):0≤tAt F i∧tAt F i≤t:=by
 by_cases h1:0≤i∧i<F.length
 ·obtain ⟨x,hx,e⟩:=zou h1.1 h1.2
  have:=h.low x hx
  rw [e];omega
 ·rw [zdm (by omega)]
  omega
theorem zot {t:Int} {F:LogD} (h:LogOk t F) {i:Int} (h0:0≤i) (h1:i<F.length):1≤tAt F i:=by
 obtain ⟨x,hx,e⟩:=zou h0 h1
 have:=h.low x hx
 rw [e];omega
theorem zkp {t:Int} {F:LogD} (h:LogOk t F) (ht:0≤t) {i j:Int} (hij:i≤j) (hj:j<F.length):tAt F i≤tAt F j:=by
 by_cases h0:0≤i
 ·have hi':i.toNat<F.length:=by omega
  have hj':j.toNat<F.length:=by omega
  unfold tAt
  rw [if_pos ⟨h0,by omega⟩,if_pos ⟨by omega,hj⟩]
  simp only [List.getD_eq_getElem?_getD,List.getElem?_eq_getElem hi',List.getElem?_eq_getElem hj',Option.getD_some]
  rcases Nat.lt_or_ge i.toNat j.toNat with hlt|hge
  ·exact List.pairwise_iff_getElem.1 h.sorted _ _ hi' hj' hlt
  ·have:i.toNat=j.toNat:=by omega
   simp only [this];exact Int.le_refl _
 ·rw [zdm (by omega)]
  exact (zc2 h ht j).1
inductive MK where
 | vote (f:Nat)
 | voted (f:Nat)
 | app (f i:Nat) (c:Int)
 | good (f:Nat)
 | bad (f i:Nat)
def MK.of:MK→Nat
 | .vote f | .voted f | .app f _ _ | .good f | .bad f _=>f
def MK.msg (L:Nat) (t:Int) (F:LogD):MK→MsgD
 | .vote f=>⟨1,L,f,t,F.length,tAt F (F.length-1),0,false,[]⟩
 | .voted f=>⟨2,f,L,t,0,0,0,true,[]⟩
 | .app f i c=>⟨3,L,f,t,i,tAt F (i-1),c,false,F.drop i⟩
 | .good f=>⟨4,f,L,t,F.length,0,0,true,[]⟩
 | .bad f i=>⟨4,f,L,t,i,0,0,false,[]⟩
def MK.w (len:Nat→Nat):MK→Nat
 | .vote _=>10
 | .voted _=>9
 | .app f i _=>if i≤len f then 2 else 4
 | .good _=>1
 | .bad _ _=>3
def mu (len:Nat→Nat) (ks:List MK):Nat:=(ks.map (MK.w len)).sum
theorem zb4 (len:Nat→Nat) (k:MK) (ks:List MK):mu len (k::ks)=k.w len+mu len ks:=rfl
theorem zm5 (len:Nat→Nat) (ks l:List MK):mu len (ks++l)=mu len ks+mu len l:=by simp [mu]
theorem qbd (len:Nat→Nat) (k:MK):1≤k.w len:=by
 cases k<;>simp [MK.w]
 split<;>omega
theorem zio (len:Nat→Nat):∀ ks:List MK,ks.length≤mu len ks
 | []=>Nat.zero_le _
 | k :: ks => by
   rw [zb4,List.length_cons]
   have:=zio len ks
   have:=qbd len k
   omega
theorem qc0 {len len':Nat→Nat} (h:∀ f,len f≤len' f) (k:MK):k.w len'≤k.w len:=by
 cases k with
 | app f i c =>
   have:=h f
   simp only [MK.w]
   split<;>split<;>omega
 | _=>exact Nat.le_refl _
theorem zv9 {len len':Nat→Nat} (h:∀ f,len f≤len' f):∀ ks:List MK,mu len' ks≤mu len ks
 | []=>Nat.le_refl _
 | k :: ks => by
   rw [zb4,zb4]
   have:=zv9 h ks
   have:=qc0 h k
   omega
structure RInv (L:Nat) (t:Int) (F:LogD) (d:Nat) (i:Nat) (r:RepD):Prop where
 id:r.id=i
 n:r.n=3
 nl:r.next.length=5
 ml:r.mtch.length=5
 disk:r.Disk
 pre:r.j.log <+: F
 t0:0≤r.j.term
 tt:r.j.term≤t
 last:tAt r.j.log (r.j.log.length-1)≤r.j.term
 v0:-1≤r.j.vote∧r.j.vote<3
 vt:r.j.term=t→r.j.vote=-1∨r.j.vote=L
 c0:0≤r.commit∧r.commit≤d∧r.commit≤r.j.log.length
 role:i≠L→r.role=1
structure LInv (L:Nat) (t:Int) (F:LogD) (q:QuoD) (lead:Bool):Prop where
 log:(q.rep L).j.log=F
 term:(q.rep L).j.term=t
 cand:lead=false→(q.rep L).role=2∧(q.rep L).votes=2 ^ L
 ldr:lead=true→(q.rep L).role=3∧∀ f:Nat,f<3→f≠L→0≤(q.rep L).nx f∧(q.rep L).nx f≤F.length∧0≤(q.rep L).mt f∧(q.rep L).mt f≤(q.rep f).j.log.length
def KInv (L:Nat) (F:LogD) (d:Nat) (q:QuoD) (lead:Bool) (k:MK):Prop:=k.of<3∧k.of≠L∧match k with
 | .vote _=>True
 | .voted _=>True
 | .app _ i c=>lead=true∧i≤F.length∧0≤c∧c≤d
 | .good f=>lead=true∧(q.rep f).j.log=F
 | .bad f i=>lead=true∧i≤(q.rep f).j.log.length
def MK.isL:MK→Bool
 | .app _ _ _ | .good _ | .bad _ _=>true
 | _=>false
def lensQ (q:QuoD) (f:Nat):Nat:=(q.rep f).j.log.length
structure FInv (K:Nat) (up:Int) (L:Nat) (t:Int) (F:LogD) (lead:Bool) (ks:List MK) (q:QuoD):Prop where
 len:q.reps.length=3
 L3:L<3
 upL:QuoD.upB up L=true
 t1:1≤t∧t≤1000000
 lg:LogOk t F
 reps:∀ i:Nat,i<3→RInv L t F q.done.length i (q.rep i)
 net:q.net=ks.map (MK.msg L t F)
 kinv:∀ k∈ks,KInv L F q.done.length q lead k
 ldr:LInv L t F q lead
 done:q.done=(F.take q.done.length).map (·.2)∧q.done.length≤F.length
 cmt:lead=true→tAt F (F.length-1)=t→(∃ f:Nat,f<3∧f≠L∧(q.rep L).mt f=F.length)→(q.rep L).commit=F.length
 prog:lead=true→∀ f:Nat,f<3→f≠L→QuoD.upB up f=true→(q.rep L).mt f=F.length∨∃ k∈ks,k.isL=true∧k.of=f
 start:lead=false→∃ k∈ks,k.isL=false∧QuoD.upB up k.of=true
 recs:∀ i:Nat,i<3→(q.rep i).recs.length+2 * mu (lensQ q) ks≤(q.rep i).j.log.length+K
 small:mu (lensQ q) ks≤40
theorem zru {j:JSt} {t v:Int} (h0:0≤t∧t≤1073741824) (hv:-1≤v∧v<5) (h1:j.term≤t) (h2:t=j.term→j.vote=-1∨j.vote=v):j.setTerm t v=(0,{ j with term:=t,vote:=v }):=by
 unfold JSt.setTerm
 rw [if_neg (by omega),if_neg]
 rintro (h|⟨h3,h4,h5⟩)
 ·omega
 ·rcases h2 h3 with h|h
  ·exact h4 h
  ·exact h5 h
theorem zqx {j:JSt} {a:Int} {e:EnD} (h0:1≤a∧a≤1073741824) (hs:shapeB e=true) (h1:a≤j.term) (h2:tAt j.log (j.log.length-1)≤a) (h3:j.log.length<4096):j.add a e=(0,{ j with log:=j.log++[(a,e)] }):=by
 unfold JSt.add
 rw [if_neg (by rw [hs];simp;omega),if_neg (by rw [zat];omega),if_neg (by omega)]
theorem zbi {r:RepD} {t v:Int} (h0:0≤t∧t≤1073741824) (hv:-1≤v∧v<5) (h1:r.j.term≤t) (h2:t=r.j.term→r.j.vote=-1∨r.j.vote=v):r.remember t v={ r with j:={ r.j with term:=t,vote:=v },recs:=r.recs++[.term t v] }:=by
 unfold RepD.remember RepD.put;simp only [JSt.app,zru h0 hv h1 h2,if_true]
theorem zid {r:RepD} {a:Int} {e:EnD} (h0:1≤a∧a≤1073741824) (hs:shapeB e=true) (h1:a≤r.j.term) (h2:tAt r.j.log (r.j.log.length-1)≤a) (h3:r.j.log.length<4096):r.put (.ent a e)={ r with j:={ r.j with log:=r.j.log++[(a,e)] },recs:=r.recs++[.ent a e] }:=by
 unfold RepD.put;simp only [JSt.app,zqx h0 hs h1 h2 h3,if_true]
theorem zko (l:LogD) (x:Int × EnD):tAt (l++[x]) ((l++[x]).length-1)=x.1:=by
 unfold tAt
 rw [if_pos (by simp;omega)]
 simp [List.getD_eq_getElem?_getD]
theorem zi3 {t:Int} (ht:t≤1073741824):∀ (l:LogD) (r:RepD),LogOk t (r.j.log++l)→(∀ x∈l,x.1≤r.j.term)→l.foldl (fun r x=>r.put (.ent x.1 x.2)) r={ r with j:={ r.j with log:=r.j.log++l },recs:=r.recs++l.map fun x=>.ent x.1 x.2 }
 | [],r,_,_=>by simp
 | x :: l, r, h, hx => by
   have hlow:=h.low x (by simp)
   have e:r.put (.ent x.1 x.2)={ r with j:={ r.j with log:=r.j.log++[(x.1,x.2)] },recs:=r.recs++[.ent x.1 x.2] }:=by
    refine zid ⟨hlow.1,by omega⟩ hlow.2.2 (hx x (by simp)) ?_ ?_
    ·by_cases h0:r.j.log.length=0
     ·rw [zdm (by omega)];omega
     ·have:=zou (F:=r.j.log) (i:=(r.j.log.length:Int)-1) (by omega) (by omega)
      obtain ⟨y,hy,e⟩:=this;rw [e]
      exact (List.pairwise_append.1 h.sorted).2.2 y hy x (by simp)
    ·have:=h.len
     simp at this;omega
   rw [List.foldl_cons,e,zi3 ht l]
   ·simp
   ·have:r.j.log++[(x.1,x.2)]++l=r.j.log++x::l:=by simp
    simp only [this];exact h
   ·intro y hy
    exact hx y (by simp [hy])
theorem znl {t:Int}:∀ (l:LogD) (low:Int),l.Pairwise (fun x y=>x.1≤y.1)→(∀ x∈l,low≤x.1∧x.1≤t∧shapeB x.2=true)→RepD.entsOk t low l=true
 | [],low,_,_=>rfl
 | (a, e) :: l, low, hp, h => by
   have h1:=h (a,e) (by simp)
   rw [List.pairwise_cons] at hp;simp only [RepD.entsOk,h1.2.2,Bool.true_and,Bool.and_eq_true,decide_eq_true_eq]
   exact ⟨⟨h1.1,h1.2.1⟩,znl l a hp.2 fun y hy=>⟨hp.1 y hy,(h y (by simp [hy])).2⟩⟩
theorem zd7 {r:RepD} {m:MsgD} (h1:m.to=r.id) (h2:m.src≠r.id) (h3:0≤m.src∧m.src<r.n) (h4:1≤m.term∧m.term≤1073741824) (h5:0≤m.index∧m.index≤4096) (h6:0≤m.prev∧m.prev≤m.term) (h7:0≤m.commit∧m.commit≤4096)
 (h8:m.kind=1∨m.kind=2∨m.kind=4∨m.kind=3∧(m.prev=0↔m.index=0)∧m.index+m.ents.length≤4096∧RepD.entsOk m.term (max 1 m.prev) m.ents=true):r.proper m=true:=by
 unfold RepD.proper;simp only [Bool.and_eq_true,Bool.or_eq_true,decide_eq_true_eq];refine ⟨⟨⟨⟨⟨⟨⟨⟨⟨⟨⟨⟨h1,h2⟩,h3.1⟩,h3.2⟩,h4.1⟩,h4.2⟩,h5.1⟩,h5.2⟩,h6.1⟩,h6.2⟩,h7.1⟩,h7.2⟩,?_⟩
 rcases h8 with h|h|h|⟨h,h9,h10,h11⟩
 ·exact .inl (.inl (.inl h))
 ·exact .inl (.inl (.inr h))
 ·exact .inl (.inr h)
 ·exact .inr ⟨⟨⟨h,by rw [beq_iff_eq];exact decide_eq_decide.2 h9⟩,h10⟩,h11⟩
theorem zbl {r r0:RepD} {m:MsgD} (hp:r.proper m=true) (h0:(if r.j.term<m.term then { r.remember m.term (-1) with role:=1 } else r)=r0) :
 (m.kind=1→r.handle m=r0.handleVote m)∧(m.kind=2→r.handle m=r0.handleVoted m)∧(m.kind=3→r.handle m=r0.handleAppend m)∧(m.kind=4→r.handle m=r0.handleStored m):=by
 have h:r.handle m=if m.kind=1 then r0.handleVote m else if m.kind=2 then r0.handleVoted m else if m.kind=3 then r0.handleAppend m else if m.kind=4 then r0.handleStored m else (r0,[]):=by
  unfold RepD.handle
  rw [if_neg (by rw [hp];simp)]
  simp only [h0]
 refine ⟨fun k=>?_,fun k=>?_,fun k=>?_,fun k=>?_⟩
 ·rw [h,if_pos k]
 ·rw [h,if_neg (by omega),if_pos k]
 ·rw [h,if_neg (by omega),if_neg (by omega),if_pos k]
 ·rw [h,if_neg (by omega),if_neg (by omega),if_neg (by omega),if_pos k]
section
variable {L:Nat} {t:Int} {F:LogD} {d:Nat} {f:Nat} {r:RepD}
theorem zbj (hL:L<3) (hf:f<3) (hne:f≠L) (ht:1≤t∧t≤1000000) (hF:LogOk t F) {k:MK} (hk:k.of=f) (hto:r.id=(k.msg L t F).to) (hn:r.n=3) (hi:∀ i c,k=.app f i c→i≤F.length∧0≤c∧c≤4096) (hb:∀ i,k=.bad f i→i≤F.length):r.proper (k.msg L t F)=true:=by
 have hl:=hF.len
 have b:=zc2 hF (by omega)
 cases k with
 | vote g =>
   obtain rfl:g=f:=hk
   have:=b (F.length-1)
   simp only [MK.msg] at hto ⊢
   exact zd7 hto.symm (by simp only;omega) ⟨by simp only;omega,by simp only;omega⟩ ⟨by simp only;omega,by simp only;omega⟩ ⟨by simp only;omega,by simp only;omega⟩ ⟨by simp only;omega,by simp only;omega⟩ ⟨by simp only;omega,by simp only;omega⟩ (.inl rfl)
 | voted g =>
   obtain rfl:g=f:=hk;simp only [MK.msg] at hto ⊢
   exact zd7 hto.symm (by simp only;omega) ⟨by simp only;omega,by simp only;omega⟩ ⟨by simp only;omega,by simp only;omega⟩ ⟨by simp only;omega,by simp only;omega⟩ ⟨by simp only;omega,by simp only;omega⟩ ⟨by simp only;omega,by simp only;omega⟩ (.inr (.inl rfl))
 | good g =>
   obtain rfl:g=f:=hk;simp only [MK.msg] at hto ⊢
   exact zd7 hto.symm (by simp only;omega) ⟨by simp only;omega,by simp only;omega⟩ ⟨by simp only;omega,by simp only;omega⟩ ⟨by simp only;omega,by simp only;omega⟩ ⟨by simp only;omega,by simp only;omega⟩ ⟨by simp only;omega,by simp only;omega⟩ (.inr (.inr (.inl rfl)))
 | bad g i =>
   obtain rfl:g=f:=hk
   have:=hb i rfl
   simp only [MK.msg] at hto ⊢
   exact zd7 hto.symm (by simp only;omega) ⟨by simp only;omega,by simp only;omega⟩ ⟨by simp only;omega,by simp only;omega⟩ ⟨by simp only;omega,by simp only;omega⟩ ⟨by simp only;omega,by simp only;omega⟩ ⟨by simp only;omega,by simp only;omega⟩ (.inr (.inr (.inl rfl)))
 | app g i c =>
   obtain rfl:g=f:=hk
   have h1:=hi i c rfl
   have h2:=b (i-1)
   have he:RepD.entsOk t (max 1 (tAt F (i-1))) (F.drop i)=true:=by
    refine znl _ _ (hF.sorted.sublist (List.drop_sublist _ _)) fun x hx=>?_
    have hx':=hF.low x (List.mem_of_mem_drop hx)
    refine ⟨?_,hx'.2⟩;rw [Int.max_le];refine ⟨hx'.1,?_⟩;obtain ⟨j,hj,e⟩:=List.getElem_of_mem hx;simp only [List.length_drop] at hj
    have e2:tAt F ((i+j:Nat):Int)=x.1:=by
     unfold tAt
     rw [if_pos ⟨by omega,by omega⟩]
     have:F[i+j]'(by omega)=x:=by rw [←e,List.getElem_drop]
     rw [Int.toNat_natCast]
     simp [List.getD_eq_getElem?_getD,List.getElem?_eq_getElem (show i+j<F.length by omega),this]
    rw [←e2]
    exact zkp hF (by omega) (by omega) (by omega)
   have h3:(tAt F (i-1)=0)↔(i:Int)=0:=by
    constructor
    ·intro h
     by_cases h0:i=0
     ·omega
     ·have:=zot hF (i:=(i:Int)-1) (by omega) (by omega)
      omega
    ·intro h
     exact zdm (by omega)
   simp only [MK.msg] at hto ⊢
   exact zd7 hto.symm (by simp only;omega) ⟨by simp only;omega,by simp only;omega⟩ ⟨by simp only;omega,by simp only;omega⟩ ⟨by simp only;omega,by simp only;omega⟩ ⟨by simp only;omega,by simp only;omega⟩ ⟨by simp only;omega,by simp only;omega⟩ (.inr (.inr (.inr ⟨rfl,h3,by simp only [List.length_drop];omega,he⟩)))
theorem zk7 (hF:LogOk t F) (ht:0≤t) {l:LogD} (h:l <+: F):tAt l (l.length-1)≤tAt F (F.length-1)∧(tAt F (F.length-1)=tAt l (l.length-1)→(l.length:Int)≤F.length):=by
 have hl:=h.length_le
 refine ⟨?_,fun _=>by omega⟩
 by_cases h0:F.length=0
 ·rw [zdm (F:=l) (by omega)]
  exact (zc2 hF ht _).1
 ·rw [zh6 h (by omega)]
  exact zkp hF ht (by omega) (by omega)
theorem zny (hr:RInv L t F d f r) (hne:f≠L) (ht:1≤t∧t≤1000000):∃ r0 rs,(if r.j.term<t then { r.remember t (-1) with role:=1 } else r)=r0∧rs.length≤1∧r0={ r with role:=1,j:={ r.j with term:=t,vote:=r0.j.vote },recs:=r.recs++rs }∧r0.Disk∧(r0.j.vote=-1∨r0.j.vote=L):=by
 by_cases h:r.j.term<t
 ·have e:=zbi (r:=r) (t:=t) (v:=-1) (by omega) (by omega) (by omega) (by omega)
  refine ⟨_,[.term t (-1)],if_pos h,by simp,?_,?_,?_⟩
  ·rw [e]
  ·have:=RepD.put_disk hr.disk (.term t (-1))
   exact this
  ·rw [e];exact .inl rfl
 ·have e:r.j.term=t:=by have:=hr.tt;omega
  refine ⟨_,[],if_neg h,by simp,?_,hr.disk,hr.vt e⟩
  have h2:=hr.role hne
  obtain ⟨a1,a2,a3,a4,a5,a6,a7,⟨b1,b2,b3⟩,a9⟩:=r;simp only at h2 e;subst h2 e;simp
theorem qdi (hL:L<3) (hf:f<3) (hne:f≠L) (ht:1≤t∧t≤1000000) (hF:LogOk t F) (hr:RInv L t F d f r) :
 (r.handle ((MK.vote f).msg L t F)).2=[(MK.voted f).msg L t F]∧RInv L t F d f (r.handle ((MK.vote f).msg L t F)).1∧(r.handle ((MK.vote f).msg L t F)).1.j.log=r.j.log∧(r.handle ((MK.vote f).msg L t F)).1.recs.length≤r.recs.length+2∧(r.handle ((MK.vote f).msg L t F)).1.commit=r.commit:=by
 have hp:=zbj hL hf hne ht hF (k:=.vote f) rfl (r:=r) hr.id hr.n (by nofun) (by nofun)
 obtain ⟨r0,rs,e1,e2,e3,e4,e5⟩:=zny hr hne ht
 have hpre:r0.j.log=r.j.log:=by rw [e3]
 have ht0:r0.j.term=t:=by rw [e3]
 have hid0:r0.id=f:=by rw [e3];exact hr.id
 have hll:=zk7 hF (by omega) hr.pre
 have hc:((MK.vote f).msg L t F).term=r0.j.term:=ht0.symm
 have hgood:((MK.vote f).msg L t F).term=r0.j.term∧(r0.j.vote=-1∨r0.j.vote=((MK.vote f).msg L t F).src)∧(r0.lastTerm<((MK.vote f).msg L t F).prev∨((MK.vote f).msg L t F).prev=r0.lastTerm∧r0.len≤((MK.vote f).msg L t F).index):=by
  refine ⟨hc,e5,?_⟩;simp only [MK.msg,RepD.lastTerm,RepD.len,zat,hpre]
  by_cases h:tAt r.j.log (r.j.log.length-1)<tAt F (F.length-1)
  ·exact .inl h
  ·have h2:tAt F (F.length-1)=tAt r.j.log (r.j.log.length-1):=by omega
   exact .inr ⟨h2,hll.2 h2⟩
 have hh:r.handle ((MK.vote f).msg L t F)=(r0.remember t L,[(MK.voted f).msg L t F]):=by
  rw [(zbl hp e1).1 rfl];unfold RepD.handleVote;rw [if_pos hgood];refine Prod.ext rfl ?_;simp only [MK.msg,RepD.msg,hid0,ht0]
 have hrem:=zbi (r:=r0) (t:=t) (v:=L) (by omega) (by omega) (by omega) (fun _=>e5)
 have hd:=RepD.put_disk e4 (.term t L)
 rw [hh];refine ⟨rfl,?_,?_,?_,?_⟩
 ·have hd':(r0.remember t L).Disk:=hd
  rw [hrem] at hd' ⊢;rw [e3] at hd' ⊢
  exact ⟨hr.id,hr.n,hr.nl,hr.ml,hd',hr.pre,by simp;omega,by simp,by have:=hr.last;have:=hr.tt;simp;omega,by simp;omega,by simp,hr.c0,fun _=>rfl⟩
 ·rw [hrem];exact hpre
 ·rw [hrem,e3]
  simp;omega
 ·rw [hrem,e3]
theorem zjg:∀ (l:LogD) (m i:Nat) (r:RepD),r.j.log <+: F→l=F.drop i→m=r.j.log.length-i→i≤r.j.log.length→LogOk t F→r.agree i l=m
 | [], m, i, r, hp, hl, hm, hi, _ => by
   have h1:F.length≤i:=by
    have:=congrArg List.length hl
    simp at this;omega
   have:=hp.length_le
   simp [RepD.agree];omega
 | (a, e) :: l, m, i, r, hp, hl, hm, hi, hF => by
   have hlen:=hp.length_le
   have hiF:i<F.length:=by
    have:=congrArg List.length hl
    simp at this;omega
   have hd:=List.drop_eq_getElem_cons hiF
   rw [hd] at hl;simp only [List.cons.injEq] at hl;obtain ⟨h1,h2⟩:=hl
   have ha:a=tAt F i:=by
    unfold tAt
    rw [if_pos ⟨by omega,by omega⟩]
    simp [List.getD_eq_getElem?_getD,List.getElem?_eq_getElem hiF,←h1]
   have hpos:=zot hF (i:=(i:Int)) (by omega) (by omega)
   rw [RepD.agree]
   by_cases h:i<r.j.log.length
   ·have e:r.j.termAt i=a:=by rw [zat,zh6 hp (by omega),ha]
    rw [if_pos e]
    have:=zjg l (m-1) (i+1) r hp h2 (by omega) (by omega) hF
    rw [show ((i:Int)+1)=((i+1:Nat):Int) by omega,this]
    omega
   ·have e:r.j.termAt i=0:=by rw [zat];exact zdm (by omega)
    rw [if_neg (by rw [e];omega)]
    omega
theorem qdr (hL:L<3) (hf:f<3) (hne:f≠L) (ht:1≤t∧t≤1000000) (hF:LogOk t F) (hr:RInv L t F d f r) (hd4:d≤4096) {i:Nat} {c:Int} (hi:i≤F.length) (hc:0≤c∧c≤d) {r':RepD} (hr':r'=(r.handle ((MK.app f i c).msg L t F)).1) :
 (r.handle ((MK.app f i c).msg L t F)).2=[(if i≤r.j.log.length then (MK.good f).msg L t F else (MK.bad f r.j.log.length).msg L t F)]∧RInv L t F d f r'∧r'.j.log=(if i≤r.j.log.length then F else r.j.log)∧r'.recs.length+r.j.log.length≤r.recs.length+r'.j.log.length+2:=by
 have hp:=zbj hL hf hne ht hF (k:=.app f i c) rfl (r:=r) hr.id hr.n (fun i' c' h=>by cases h;omega) (by nofun)
 obtain ⟨r0,rs,e1,e2,e3,e4,e5⟩:=zny hr hne ht
 have hpre:r0.j.log=r.j.log:=by rw [e3]
 have ht0:r0.j.term=t:=by rw [e3]
 have hid0:r0.id=f:=by rw [e3];exact hr.id
 have hr0:r0.role=1:=by rw [e3]
 have hc0:r0.commit=r.commit:=by rw [e3]
 have hle:=hr.pre.length_le
 have hh:r.handle ((MK.app f i c).msg L t F)=r0.handleAppend ((MK.app f i c).msg L t F):=by
  exact (zbl hp e1).2.2.1 rfl
 have hr1:{ r0 with role:=1 }=r0:=by rw [←hr0]
 have inv0:RInv L t F d f r0:=by
  have e4':=e4
  rw [e3] at e4' ⊢
  exact ⟨hr.id,hr.n,hr.nl,hr.ml,e4',hr.pre,by simp;omega,by simp,by have:=hr.last;have:=hr.tt;simp;omega,by simp;omega,fun _=>e5,hr.c0,fun _=>rfl⟩
 have hst:∀ (q:RepD) (ix:Int) (b:Bool),q.id=f→q.j.term=t→q.stored L ix b=[⟨4,f,L,t,ix,0,0,b,[]⟩]:=fun q ix b h1 h2=>by simp [RepD.stored,RepD.msg,h1,h2]
 rw [hh] at hr' ⊢;unfold RepD.handleAppend at hr' ⊢
 rw [if_neg (by simp only [MK.msg];omega),if_neg (by omega)] at hr' ⊢
 simp only [hr1] at hr' ⊢
 by_cases hil:i≤r.j.log.length
 ·have hsame:¬ (r0.len<((MK.app f i c).msg L t F).index∨0<((MK.app f i c).msg L t F).index∧r0.j.termAt (((MK.app f i c).msg L t F).index-1)≠((MK.app f i c).msg L t F).prev):=by
   simp only [RepD.len,MK.msg,hpre,zat]
   rintro (h|⟨h1,h2⟩)
   ·omega
   ·exact h2 (zh6 hr.pre (by omega))
  rw [if_neg hsame] at hr' ⊢
  have hag:r0.agree ((MK.app f i c).msg L t F).index ((MK.app f i c).msg L t F).ents=r.j.log.length-i:=zjg (F:=F) (t:=t) (F.drop i) _ i r0 (by rw [hpre];exact hr.pre) rfl (by rw [hpre]) (by rw [hpre];exact hil) hF
  simp only [hag] at hr' ⊢
  have hents:((MK.app f i c).msg L t F).ents=F.drop i:=rfl
  have hidx:((MK.app f i c).msg L t F).index=i:=rfl
  have hcm:((MK.app f i c).msg L t F).commit=c:=rfl
  have hsrc:((MK.app f i c).msg L t F).src=L:=rfl
  have hix:(i:Int)+((r.j.log.length-i:Nat):Int)=r.j.log.length:=by omega
  have hend:(i:Int)+((F.drop i).length:Int)=F.length:=by simp;omega
  simp only [hents,hidx,hcm,hsrc,hix,hend] at hr' ⊢
  rw [if_neg (by rw [hc0];have:=hr.c0;omega)] at hr' ⊢
  have key:∃ r1:RepD,(if r.j.log.length-i<(F.drop i).length then r0.replace r.j.log.length ((F.drop i).drop (r.j.log.length-i)) else r0)=r1∧r1.id=f∧r1.j.term=t∧r1.j.log=F∧r1.commit=r.commit∧RInv L t F d f { r1 with commit:=max r1.commit (min c F.length) }∧r1.recs.length+r.j.log.length≤r.recs.length+F.length+1:=by
   have hbd:0≤max r.commit (min c F.length)∧max r.commit (min c F.length)≤d∧max r.commit (min c F.length)≤F.length:=by
    have:=hr.c0
    omega
   by_cases hk:r.j.log.length-i<(F.drop i).length
   ·rw [if_pos hk]
    have hdd:(F.drop i).drop (r.j.log.length-i)=F.drop r.j.log.length:=by
     rw [List.drop_drop]
     congr 1
     omega
    have hcat:r0.j.log++F.drop r.j.log.length=F:=by
     rw [hpre]
     conv=>rhs;rw [←List.take_append_drop r.j.log.length F]
     rw [List.prefix_iff_eq_take.1 hr.pre];simp [Nat.min_eq_left hle]
    have hrep:r0.replace r.j.log.length (F.drop r.j.log.length)={ r0 with j:={ r0.j with log:=F },recs:=r0.recs++(F.drop r.j.log.length).map fun x=>.ent x.1 x.2 }:=by
     unfold RepD.replace
     rw [if_neg (by rw [RepD.len,hpre];omega),zi3 (t:=t) (by omega),hcat]
     ·rw [hcat];exact hF
     ·intro x hx
      rw [ht0];exact (hF.low x (List.mem_of_mem_drop hx)).2.1
    have hdisk:(r0.replace r.j.log.length (F.drop r.j.log.length)).Disk:=by
     unfold RepD.replace
     rw [if_neg (by rw [RepD.len,hpre];omega)]
     have:∀ (l:LogD) (q:RepD),q.Disk→(l.foldl (fun r x=>r.put (.ent x.1 x.2)) q).Disk:=by
      intro l
      induction l with
      | nil=>intro q h;exact h
      | cons x l ih=>intro q h;exact ih _ (RepD.put_disk h _)
     exact this _ _ e4
    rw [hdd];refine ⟨_,rfl,?_,?_,?_,?_,?_,?_⟩
    ·rw [hrep];exact hid0
    ·rw [hrep];exact ht0
    ·rw [hrep]
    ·rw [hrep];exact hc0
    ·have hdisk':=hdisk
     rw [hrep] at hdisk' ⊢
     refine ⟨inv0.id,inv0.n,inv0.nl,inv0.ml,hdisk',List.prefix_refl _,inv0.t0,inv0.tt,?_,inv0.v0,inv0.vt,?_,fun _=>hr0⟩
     ·show tAt F (F.length-1)≤r0.j.term
      rw [ht0]
      exact (zc2 hF (by omega) _).2
     ·show 0≤max r0.commit (min c F.length)∧max r0.commit (min c F.length)≤d∧max r0.commit (min c F.length)≤F.length
      rw [hc0];exact hbd
    ·rw [hrep,e3]
     simp;omega
   ·rw [if_neg hk]
    have hfl:r.j.log.length=F.length:=by simp at hk;omega
    have hfe:r.j.log=F:=List.IsPrefix.eq_of_length hr.pre hfl
    refine ⟨r0,rfl,hid0,ht0,hpre.trans hfe,hc0,?_,?_⟩
    ·refine ⟨inv0.id,inv0.n,inv0.nl,inv0.ml,e4,inv0.pre,inv0.t0,inv0.tt,inv0.last,inv0.v0,inv0.vt,?_,fun _=>hr0⟩
     show 0≤max r0.commit (min c F.length)∧max r0.commit (min c F.length)≤d∧max r0.commit (min c F.length)≤r0.j.log.length
     rw [hc0,hpre,hfe];exact hbd
    ·rw [e3]
     simp;omega
  obtain ⟨r1,k1,k2,k3,k4,k5,k6,k7⟩:=key;rw [k1] at hr' ⊢;simp only at hr';refine ⟨?_,?_,?_,?_⟩
  ·rw [if_pos hil]
   exact hst _ _ _ k2 k3
  ·rw [hr'];exact k6
  ·rw [hr',if_pos hil];exact k4
  ·rw [hr']
   show r1.recs.length+r.j.log.length≤r.recs.length+r1.j.log.length+2
   rw [k4];omega
 ·have hsame:r0.len<((MK.app f i c).msg L t F).index∨0<((MK.app f i c).msg L t F).index∧r0.j.termAt (((MK.app f i c).msg L t F).index-1)≠((MK.app f i c).msg L t F).prev:=by
   refine .inl ?_;simp only [RepD.len,MK.msg,hpre];omega
  rw [if_pos hsame] at hr' ⊢;simp only at hr';subst r';refine ⟨?_,inv0,?_,?_⟩
  ·rw [if_neg hil]
   have:min r0.len (((MK.app f i c).msg L t F).index-1)=(r.j.log.length:Int):=by
    simp only [RepD.len,MK.msg,hpre];omega
   rw [this];exact hst _ _ _ hid0 ht0
  ·rw [if_neg hil];exact hpre
  ·rw [e3]
   simp;omega
end
def oth (L:Nat):List Nat:=(List.range 3).filter fun i=>decide (i≠L)
theorem zc8 {L f:Nat}:f∈oth L↔f<3∧f≠L:=by simp [oth]
theorem zbk {L:Nat} {r:RepD} (hid:r.id=L) (hn:r.n=3) (g:Int→MsgD):r.others g=(oth L).map fun f:Nat=>g (f:Int):=by
 unfold RepD.others oth;rw [hid,hn]
 congr 2
 funext i
 exact decide_eq_decide.2 (by omega)
theorem zbw {L:Nat} {t:Int} {F:LogD} {r:RepD} (hid:r.id=L) (ht:r.j.term=t) (hl:r.j.log=F) (f:Nat) (h0:0≤r.nx f):r.appending f=(MK.app f (r.nx f).toNat r.commit).msg L t F:=by
 have e:(((r.nx f).toNat:Nat):Int)=r.nx f:=by omega
 simp only [RepD.appending,RepD.msg,MK.msg,hid,ht,hl,e,zat]
theorem zqq:∀ L:Fin 3,∀ f:Fin 3,f≠L→RepD.bitsTo ((((2:Int) ^ L.val).toNat ||| 2 ^ f.val:Nat):Int) 3=2:=by decide
theorem zqv (r:RepD):∀ m:Nat,∃ c,r.advGo m={ r with commit:=c }∧r.commit≤c∧(c=r.commit∨c≤m)
 | 0=>⟨r.commit,rfl,Int.le_refl _,.inl rfl⟩
 | m + 1 => by
   rw [RepD.advGo];obtain ⟨c,h1,h2,h3⟩:=zqv r m
   split
   ·exact ⟨r.commit,rfl,Int.le_refl _,.inl rfl⟩
   ·split
    ·exact ⟨c,h1,h2,h3.imp id fun h=>by omega⟩
    ·split
     ·exact ⟨m+1,rfl,by omega,.inr (by omega)⟩
     ·exact ⟨c,h1,h2,h3.imp id fun h=>by omega⟩
theorem qcx {r:RepD} {t:Int} {F:LogD} {L f:Nat} (hL:L<3) (hf:f<3) (hne:f≠L) (hid:r.id=L) (hn:r.n=3) (hl:r.j.log=F) (ht:r.j.term=t) (h0:tAt F (F.length-1)=t) (h1:1≤t) (hc:r.commit≤F.length) (hm:r.mt f=F.length):r.advance.commit=F.length:=by
 have hpos:0<F.length:=by
  rcases Nat.eq_zero_or_pos F.length with h|h
  ·rw [zdm (by omega)] at h0;omega
  ·exact h
 obtain ⟨m,hmm⟩:∃ m,F.length=m+1:=⟨F.length-1,by omega⟩
 have hhold:r.n<2 * r.holders ((m:Int)+1):=by
  have hmem:f∈(List.range 3).filter fun (i:Nat)=>decide (((i:Nat):Int)≠r.id) && decide ((m:Int)+1≤r.mt i):=by
   rw [List.mem_filter]
   refine ⟨by simp [hf],?_⟩
   simp only [Bool.and_eq_true,decide_eq_true_eq]
   exact ⟨by rw [hid];omega,by rw [hm];omega⟩
  have:=List.length_pos_of_mem hmem
  unfold RepD.holders;rw [hn]
  simp only [show (3:Int).toNat=3 from rfl]
  omega
 unfold RepD.advance;rw [hl,hmm,RepD.advGo]
 split
 ·have:=hc
  omega
 ·have e9:¬ r.j.termAt m≠r.j.term:=by
   rw [zat,hl,ht,Decidable.not_not];refine Eq.trans ?_ h0
   congr 1
   omega
  rw [if_neg e9]
  first|(rw [if_pos hhold];simp;done)|simp
theorem zgl (l:List Int) (n:Nat) (v:Int) (i:Nat) (h:i<n) (h2:i<l.length):(RepD.setAll l n v).getD i 0=v:=by
 unfold RepD.setAll;simp only [List.getD_eq_getElem?_getD]
 rw [List.getElem?_append_left (by simp;omega),List.getElem?_replicate,if_pos (by omega)]
 rfl
theorem zdc (l:List Int) (n:Nat) (v:Int):(RepD.setAll l n v).length=l.length:=by
 unfold RepD.setAll;simp;omega
section
variable {L:Nat} {t:Int} {F:LogD} {d:Nat} {f:Nat} {r:RepD}
theorem qci (hL:L<3) (hf:f<3) (hne:f≠L) (ht:1≤t∧t≤1000000) (hF:LogOk t F) (hr:RInv L t F d L r) (hl:r.j.log=F) (htm:r.j.term=t) (hro:r.role=2) (hv:r.votes=2 ^ L) {r':RepD} (hr':r'=(r.handle ((MK.voted f).msg L t F)).1) :
 (r.handle ((MK.voted f).msg L t F)).2=(oth L).map (fun g=>(MK.app g F.length r.commit).msg L t F)∧RInv L t F d L r'∧r'.j=r.j∧r'.recs=r.recs∧r'.commit=r.commit∧r'.role=3∧∀ g:Nat,g<3→r'.nx g=F.length∧r'.mt g=0:=by
 have hp:=zbj hL hf hne ht hF (k:=.voted f) rfl (r:=r) hr.id hr.n (by nofun) (by nofun)
 have hb:RepD.bitsTo (((r.votes.toNat ||| 2 ^ (((f:Nat):Int).toNat):Nat)):Int) 3=2:=by
  rw [hv,Int.toNat_natCast]
  exact zqq ⟨L,hL⟩ ⟨f,hf⟩ (by simpa using hne)
 have hn3:r.n.toNat=3:=by rw [hr.n];rfl
 have hg:∀ g:Nat,g<3→(RepD.setAll r.next 3 r.len).getD g 0=F.length∧(RepD.setAll r.mtch 3 0).getD g 0=0:=fun g hg=>⟨by rw [zgl _ _ _ _ hg (by rw [hr.nl];omega),RepD.len,hl],zgl _ _ _ _ hg (by rw [hr.ml];omega)⟩
 have hh:∃ r1:RepD,r1={ r with votes:=((r.votes.toNat ||| 2 ^ (((f:Nat):Int).toNat):Nat):Int),role:=3,next:=RepD.setAll r.next 3 r.len,mtch:=RepD.setAll r.mtch 3 0 }∧r.handle ((MK.voted f).msg L t F)=(r1,r1.others r1.appending):=by
  refine ⟨_,rfl,?_⟩
  rw [(zbl hp (if_neg (show ¬ r.j.term<t by omega))).2.1 rfl]
  unfold RepD.handleVoted
  rw [if_neg (by simp [MK.msg,hro,htm])]
  simp only [show ((MK.voted f).msg L t F).src=f from rfl,hn3]
  rw [if_neg (by rw [hb,hr.n];omega)]
  simp only [RepD.lead,hn3,RepD.len]
 obtain ⟨r1,e1,e2⟩:=hh;rw [e2] at hr' ⊢;simp only at hr';subst r'
 have hnx:∀ g:Nat,g<3→r1.nx g=F.length∧r1.mt g=0:=fun g hg'=>by
  rw [e1];simp only [RepD.nx,RepD.mt,Int.toNat_natCast];exact hg g hg'
 refine ⟨?_,?_,by rw [e1],by rw [e1],by rw [e1],by rw [e1],hnx⟩
 ·rw [zbk (L:=L) (by rw [e1];exact hr.id) (by rw [e1];exact hr.n)]
  refine List.map_congr_left fun g hg'=>?_
  have h3:=(zc8.1 hg').1
  rw [zbw (L:=L) (t:=t) (F:=F) (by rw [e1];exact hr.id) (by rw [e1];exact htm) (by rw [e1];exact hl) g (by rw [(hnx g h3).1];omega),(hnx g h3).1]
  rw [e1];rfl
 ·rw [e1]
  exact ⟨hr.id,hr.n,by simp only [zdc];exact hr.nl,by simp only [zdc];exact hr.ml,hr.disk,hr.pre,hr.t0,hr.tt,hr.last,hr.v0,hr.vt,hr.c0,fun h=>absurd rfl h⟩
theorem zc4 (hL:L<3) (hf:f<3) (hne:f≠L) (ht:1≤t∧t≤1000000) (hF:LogOk t F) (hr:RInv L t F d L r) (htm:r.j.term=t) (hro:r.role=3):r.handle ((MK.voted f).msg L t F)=(r,[]):=by
 have hp:=zbj hL hf hne ht hF (k:=.voted f) rfl (r:=r) hr.id hr.n (by nofun) (by nofun)
 rw [(zbl hp (if_neg (show ¬ r.j.term<t by omega))).2.1 rfl]
 unfold RepD.handleVoted
 rw [if_pos (.inl (by omega))]
theorem zks (l:List Int) (i j:Nat) (v:Int) (hi:i<l.length):(l.set i v).getD j 0=if i=j then v else l.getD j 0:=by
 simp only [List.getD_eq_getElem?_getD,List.getElem?_set]
 split
 ·rename_i h
  subst h;simp [hi]
 ·rfl
theorem qdq (hL:L<3) (hf:f<3) (hne:f≠L) (ht:1≤t∧t≤1000000) (hF:LogOk t F) (hr:RInv L t F d L r) (hl:r.j.log=F) (htm:r.j.term=t) (hro:r.role=3) (hx:∀ g:Nat,g<3→g≠L→0≤r.nx g∧r.nx g≤F.length) {i:Nat} (hi:i≤F.length) {r':RepD} (hr':r'=(r.handle ((MK.bad f i).msg L t F)).1) :
 ∃ i':Nat,i'≤i∧(r.handle ((MK.bad f i).msg L t F)).2=[(MK.app f i' r.commit).msg L t F]∧RInv L t F d L r'∧r'.j=r.j∧r'.recs=r.recs∧r'.commit=r.commit∧r'.role=3∧r'.mtch=r.mtch∧∀ g:Nat,g<3→g≠L→0≤r'.nx g∧r'.nx g≤F.length:=by
 have hp:=zbj hL hf hne ht hF (k:=.bad f i) rfl (r:=r) hr.id hr.n (by nofun) (fun i' h=>by cases h;exact hi)
 have hh:∃ r1:RepD,r1={ r with next:=r.next.set f (max 0 (min (r.nx f-1) i)) }∧r.handle ((MK.bad f i).msg L t F)=(r1,[r1.appending f]):=by
  refine ⟨_,rfl,?_⟩
  rw [(zbl hp (if_neg (show ¬ r.j.term<t by omega))).2.2.2 rfl]
  unfold RepD.handleStored
  rw [if_neg (by simp [MK.msg,hro,htm]),if_pos (show ((MK.bad f i).msg L t F).ok=false from rfl)]
  simp only [show ((MK.bad f i).msg L t F).src=f from rfl,show ((MK.bad f i).msg L t F).index=i from rfl,Int.toNat_natCast]
 obtain ⟨r1,e1,e2⟩:=hh;rw [e2] at hr' ⊢;simp only at hr';subst r'
 have hset:∀ g:Nat,r1.nx g=if f=g then max 0 (min (r.nx f-1) i) else r.nx g:=fun g=>by
  rw [e1];simp only [RepD.nx,Int.toNat_natCast]
  rw [zks _ _ _ _ (by rw [hr.nl];omega)]
 have hnx:∀ g:Nat,g<3→g≠L→0≤r1.nx g∧r1.nx g≤F.length:=fun g h1 h2=>by
  rw [hset]
  have:=hx g h1 h2
  split
  ·omega
  ·exact this
 have hself:r1.nx f=max 0 (min (r.nx f-1) i):=by rw [hset,if_pos rfl]
 refine ⟨(r1.nx f).toNat,by omega,?_,?_,by rw [e1],by rw [e1],by rw [e1],by rw [e1];exact hro,by rw [e1],hnx⟩
 ·rw [zbw (L:=L) (t:=t) (F:=F) (by rw [e1];exact hr.id) (by rw [e1];exact htm) (by rw [e1];exact hl) f (by omega)]
  rw [show r1.commit=r.commit by rw [e1]]
 ·rw [e1]
  exact ⟨hr.id,hr.n,by simp [hr.nl],hr.ml,hr.disk,hr.pre,hr.t0,hr.tt,hr.last,hr.v0,hr.vt,hr.c0,fun h=>absurd rfl h⟩
theorem qdj (hL:L<3) (hf:f<3) (hne:f≠L) (ht:1≤t∧t≤1000000) (hF:LogOk t F) (hr:RInv L t F d L r) (hl:r.j.log=F) (htm:r.j.term=t) (hro:r.role=3) (hx:∀ g:Nat,g<3→g≠L→0≤r.nx g∧r.nx g≤F.length∧0≤r.mt g∧r.mt g≤F.length) {r':RepD} (hr':r'=(r.handle ((MK.good f).msg L t F)).1) :
 ∃ c:Int,(r.handle ((MK.good f).msg L t F)).2=[]∧r.commit≤c∧c≤F.length∧r'.commit=c∧RInv L t F (max d c.toNat) L r'∧r'.j=r.j∧r'.recs=r.recs∧r'.role=3∧(tAt F (F.length-1)=t→c=F.length)∧r'.mt f=F.length∧(∀ g:Nat,g<3→g≠f→r'.mt g=r.mt g)∧∀ g:Nat,g<3→g≠L→0≤r'.nx g∧r'.nx g≤F.length:=by
 have hp:=zbj hL hf hne ht hF (k:=.good f) rfl (r:=r) hr.id hr.n (by nofun) (by nofun)
 have hmx:max (r.mt f) (F.length:Int)=F.length:=by have:=hx f hf hne;omega
 have hh:∃ r1:RepD,r1={ r with mtch:=r.mtch.set f F.length,next:=r.next.set f F.length }∧r.handle ((MK.good f).msg L t F)=(r1.advance,[]):=by
  refine ⟨_,rfl,?_⟩
  rw [(zbl hp (if_neg (show ¬ r.j.term<t by omega))).2.2.2 rfl]
  unfold RepD.handleStored
  rw [if_neg (by simp [MK.msg,hro,htm]),if_neg (by simp [MK.msg]),if_pos (by simp only [MK.msg,RepD.len,hl];omega)]
  simp only [show ((MK.good f).msg L t F).src=f from rfl,show ((MK.good f).msg L t F).index=F.length from rfl,Int.toNat_natCast,hmx]
 obtain ⟨r1,e1,e2⟩:=hh;rw [e2] at hr' ⊢;simp only at hr';obtain ⟨c,a1,a2,a3⟩:=zqv r1 r1.j.log.length
 have hlog1:r1.j.log=F:=by rw [e1];exact hl
 have hadv:r'={ r1 with commit:=c }:=hr'.trans a1
 have hc1:r1.commit=r.commit:=by rw [e1]
 have hmt:∀ g:Nat,r1.mt g=if f=g then (F.length:Int) else r.mt g:=fun g=>by
  rw [e1];simp only [RepD.mt,Int.toNat_natCast]
  rw [zks _ _ _ _ (by rw [hr.ml];omega)]
 have hnx:∀ g:Nat,r1.nx g=if f=g then (F.length:Int) else r.nx g:=fun g=>by
  rw [e1];simp only [RepD.nx,Int.toNat_natCast]
  rw [zks _ _ _ _ (by rw [hr.nl];omega)]
 have hcF:r.commit≤F.length:=by have:=hr.c0;rw [hl] at this;omega
 have hcb:c≤F.length:=by
  rcases a3 with h|h
  ·rw [h,hc1];exact hcF
  ·rw [hlog1] at h;exact h
 refine ⟨c,rfl,by rw [←hc1];exact a2,hcb,by rw [hadv],?_,by rw [hadv,e1],by rw [hadv,e1],by rw [hadv,e1];exact hro,fun h=>?_,?_,fun g h1 h2=>?_,fun g h1 h2=>?_⟩
 ·have h0:=hr.c0
  rw [hadv,e1]
  refine ⟨hr.id,hr.n,by simp [hr.nl],by simp [hr.ml],hr.disk,hr.pre,hr.t0,hr.tt,hr.last,hr.v0,hr.vt,?_,fun h=>absurd rfl h⟩
  show 0≤c∧c≤((max d c.toNat:Nat):Int)∧c≤r.j.log.length
  rw [hl];omega
 ·have:=qcx (r:=r1) (t:=t) (F:=F) (L:=L) (f:=f) hL hf hne (by rw [e1];exact hr.id) (by rw [e1];exact hr.n) hlog1 (by rw [e1];exact htm) h ht.1 (by rw [hc1];exact hcF) (by rw [hmt,if_pos rfl])
  rw [←this];unfold RepD.advance;rw [a1]
 ·rw [hadv]
  show r1.mt f=_
  rw [hmt,if_pos rfl]
 ·rw [hadv]
  show r1.mt g=_
  rw [hmt,if_neg (fun h=>h2 h.symm)]
 ·rw [hadv]
  show 0≤r1.nx g∧r1.nx g≤_
  rw [hnx]
  have:=hx g h1 h2
  split<;>omega
end
theorem zde {rs:List RepD} {net:List MsgD} {dn:List EnD} {j:Nat} {r:RepD} (hlen:rs.length=3) (hj:j<3) (i:Nat):QuoD.rep ⟨rs.set j r,net,dn⟩ i=if j=i then r else QuoD.rep ⟨rs,net,dn⟩ i:=by
 simp only [QuoD.rep,Int.toNat_natCast,List.getD_eq_getElem?_getD,List.getElem?_set]
 split
 ·rename_i h
  subst h;simp [hlen,hj]
 ·rfl
theorem zd0:∀ (l net:List MsgD),net.length+l.length≤256→l.foldl QuoD.send1 net=net++l
 | [],net,_=>by simp
 | m :: l, net, h => by
   simp only [List.length_cons] at h;rw [List.foldl_cons]
   have:QuoD.send1 net m=net++[m]:=by unfold QuoD.send1;rw [if_neg (by omega)]
   rw [this,zd0 l _ (by simp;omega)]
   simp
theorem reps3 {q:QuoD} (h:q.reps.length=3):q.reps=[q.rep (0:Nat),q.rep (1:Nat),q.rep (2:Nat)]:=by
 obtain ⟨rs,net,dn⟩:=q
 match rs,h with
 | [a,b,c],_=>rfl
theorem zhh {q:QuoD} (hlen:q.reps.length=3) {j:Nat} (hj:j<3) (h:∀ i:Nat,i<3→i≠j→(q.rep i).commit≤q.done.length) (hc:(q.rep j).commit≤(q.rep j).j.log.length):q.note={ q with done:=QuoD.note1 q.done (q.rep j) }:=by
 have key:∀ (i:Nat) (dn:List EnD),i<3→i≠j→q.done.length≤dn.length→QuoD.note1 dn (q.rep i)=dn:=fun i dn h1 h2 h3=>by
  unfold QuoD.note1
  rw [if_pos (by have:=h i h1 h2;omega)]
 have hge:q.done.length≤(QuoD.note1 q.done (q.rep j)).length:=by
  unfold QuoD.note1
  split
  ·exact Nat.le_refl _
  ·simp
   omega
 unfold QuoD.note;rw [reps3 hlen];simp only [List.foldl_cons,List.foldl_nil]
 have hj':j=0∨j=1∨j=2:=by omega
 rcases hj' with rfl|rfl|rfl
 ·rw [key 1 _ (by omega) (by omega) hge,key 2 _ (by omega) (by omega) hge,←reps3 hlen]
 ·rw [key 0 _ (by omega) (by omega) (Nat.le_refl _),key 2 _ (by omega) (by omega) hge,←reps3 hlen]
 ·rw [key 0 _ (by omega) (by omega) (Nat.le_refl _),key 1 _ (by omega) (by omega) (Nat.le_refl _),←reps3 hlen]
theorem zkh {q:QuoD} {m:MsgD} {j:Nat} (hlen:q.reps.length=3) (hj:j<3) (hto:m.to=j) {r':RepD} {out:List MsgD} (hx:(q.rep j).handle m=(r',out)) (hnet:q.net.length+out.length≤256) (h:∀ i:Nat,i<3→i≠j→(q.rep i).commit≤q.done.length) (hc:r'.commit≤r'.j.log.length):q.deliver m=⟨q.reps.set j r',q.net++out,QuoD.note1 q.done r'⟩:=by
 obtain ⟨rs,net,dn⟩:=q
 have e1:QuoD.rep ⟨rs.set j r',net++out,dn⟩ j=r':=by rw [zde hlen hj,if_pos rfl]
 unfold QuoD.deliver;rw [hto,hx];simp only [QuoD.send,QuoD.set,Int.toNat_natCast]
 rw [zd0 _ _ hnet,zhh (j:=j) (by simpa using hlen) hj,e1]
 ·intro i hi hij
  rw [zde hlen hj,if_neg (Ne.symm hij)];exact h i hi hij
 ·rw [e1];exact hc
theorem RInv.mono {L:Nat} {t:Int} {F:LogD} {d d':Nat} {i:Nat} {r:RepD} (h:RInv L t F d i r) (hd:d≤d'):RInv L t F d' i r :=
 ⟨h.id,h.n,h.nl,h.ml,h.disk,h.pre,h.t0,h.tt,h.last,h.v0,h.vt,⟨h.c0.1,by have:=h.c0;omega,h.c0.2.2⟩,h.role⟩
section
variable {K:Nat} {up:Int} {L:Nat} {t:Int} {F:LogD} {lead:Bool} {k:MK} {ks:List MK} {q:QuoD}
theorem zkb (h:FInv K up L t F lead (k::ks) q) (hup:QuoD.upB up k.of=false):FInv K up L t F lead ks { q with net:=ks.map (MK.msg L t F) }:=by
 have hmu:mu (lensQ q) ks≤mu (lensQ q) (k::ks):=by rw [zb4];omega
 refine ⟨h.len,h.L3,h.upL,h.t1,h.lg,h.reps,rfl,fun k' hk'=>h.kinv k' (by simp [hk']),⟨h.ldr.log,h.ldr.term,h.ldr.cand,h.ldr.ldr⟩,h.done,h.cmt,fun hl f hf hne hu=>?_,fun hl=>?_,fun i hi=>?_,?_⟩
 ·rcases h.prog hl f hf hne hu with h1|⟨k',h1,h2,h3⟩
  ·exact .inl h1
  ·rcases List.mem_cons.1 h1 with rfl|h1
   ·rw [h3,hu] at hup;cases hup
   ·exact .inr ⟨k',h1,h2,h3⟩
 ·obtain ⟨k',h1,h2,h3⟩:=h.start hl
  rcases List.mem_cons.1 h1 with rfl|h1
  ·rw [h3] at hup;cases hup
  ·exact ⟨k',h1,h2,h3⟩
 ·have:=h.recs i hi
  exact Nat.le_trans (Nat.add_le_add_left (Nat.mul_le_mul_left 2 hmu) _) this
 ·exact Nat.le_trans hmu h.small
theorem zi2 (h:FInv K up L t F lead (k::ks) q) {f:Nat} (hf:f<3) (hne:f≠L) (hk:k.of=f) {r':RepD} {k':MK} (hx:(q.rep f).handle (k.msg L t F)=(r',[k'.msg L t F])) (hto:(k.msg L t F).to=f) (hr':RInv L t F q.done.length f r') (hlog:r'.j.log=(q.rep f).j.log∨r'.j.log=F) (hrec:r'.recs.length+(q.rep f).j.log.length≤(q.rep f).recs.length+r'.j.log.length+2)
 (hof:k'.of=f) (hisL:k'.isL=k.isL) (hK:match (generalizing:=false) k' with | .good _=>lead=true∧r'.j.log=F | .bad _ i=>lead=true∧i≤r'.j.log.length | .vote _=>True | .voted _=>True | .app _ _ _=>False) (hw:k'.w (fun _=>r'.j.log.length)+1≤k.w (lensQ q)) (hnoapp:∀ g i c,k'≠.app g i c) :
 ∃ q',QuoD.deliver { q with net:=ks.map (MK.msg L t F) } (k.msg L t F)=q'∧FInv K up L t F lead (ks++[k']) q'∧mu (lensQ q') (ks++[k'])<mu (lensQ q) (k::ks)∧q.done.length≤q'.done.length:=by
 have hcons:=zb4 (lensQ q) k ks
 have hsm:=h.small
 have hkl:=zio (lensQ q) ks
 have hpre:=(h.reps f hf).pre
 have hgrow:(q.rep f).j.log.length≤r'.j.log.length:=by
  rcases hlog with e|e
  ·rw [e];exact Nat.le_refl _
  ·rw [e];exact hpre.length_le
 refine ⟨_,zkh (q:={ q with net:=ks.map (MK.msg L t F) }) (j:=f) h.len hf hto hx (by simp;omega) (fun i hi _=>(h.reps i hi).c0.2.1) hr'.c0.2.2,?_⟩
 have hdn:QuoD.note1 q.done r'=q.done:=by unfold QuoD.note1;rw [if_pos hr'.c0.2.1]
 simp only [hdn];obtain ⟨q',hq'⟩:∃ q':QuoD,q'=⟨q.reps.set f r',ks.map (MK.msg L t F)++[k'.msg L t F],q.done⟩:=⟨_,rfl⟩;rw [←hq']
 have hrep:∀ i:Nat,q'.rep i=if f=i then r' else q.rep i:=fun i=>by rw [hq'];exact zde h.len hf i
 have hrepL:q'.rep L=q.rep L:=by rw [hrep,if_neg hne]
 have hdq:q'.done=q.done:=by rw [hq']
 have hlens:∀ g,lensQ q g≤lensQ q' g:=fun g=>by
  unfold lensQ;rw [hrep]
  split
  ·rename_i e;subst e;exact hgrow
  ·exact Nat.le_refl _
 have hw':k'.w (lensQ q')+1≤k.w (lensQ q):=by
  have:k'.w (lensQ q')=k'.w (fun _=>r'.j.log.length):=by
   cases k' with
   | app g i c=>exact absurd rfl (hnoapp g i c)
   | _=>rfl
  rw [this];exact hw
 have hmu:mu (lensQ q') (ks++[k'])+1≤mu (lensQ q) (k::ks):=by
  rw [zm5,zb4 (lensQ q),zb4 (lensQ q')]
  have:=zv9 hlens ks
  simp only [mu,List.map_nil,List.sum_nil] at *;omega
 have hKold:∀ k2∈ks,KInv L F q'.done.length q' lead k2:=fun k2 hk2=>by
  obtain ⟨h1,h2,h3⟩:=h.kinv k2 (by simp [hk2])
  refine ⟨h1,h2,?_⟩;rw [hdq]
  cases k2 with
  | good g =>
    refine ⟨h3.1,?_⟩;rw [hrep]
    split
    ·rename_i e
     subst e
     rcases hlog with e|e
     ·rw [e];exact h3.2
     ·exact e
    ·exact h3.2
  | bad g i=>exact ⟨h3.1,Nat.le_trans h3.2 (hlens g)⟩
  | _=>exact h3
 refine ⟨⟨by rw [hq'];simp [h.len],h.L3,h.upL,h.t1,h.lg,fun i hi=>?_,by rw [hq'];simp,fun k2 hk2=>?_,?_,by rw [hdq];exact h.done,fun hl=>?_,fun hl g hg hgL hu=>?_,fun hl=>?_,fun i hi=>?_,by omega⟩,by omega,Nat.le_refl _⟩
 ·rw [hrep,hdq]
  split
  ·rename_i e;subst e;exact hr'
  ·exact h.reps i hi
 ·rcases List.mem_append.1 hk2 with hk2|hk2
  ·exact hKold k2 hk2
  ·obtain rfl:k2=k':=by simpa using hk2
   refine ⟨by rw [hof];exact hf,by rw [hof];exact hne,?_⟩
   cases k2 with
   | good g=>obtain rfl:g=f:=hof;exact ⟨hK.1,by rw [hrep,if_pos rfl];exact hK.2⟩
   | bad g i=>obtain rfl:g=f:=hof;exact ⟨hK.1,by rw [hrep,if_pos rfl];exact hK.2⟩
   | app g i c=>exact hK.elim
   | _=>trivial
 ·refine ⟨by rw [hrepL];exact h.ldr.log,by rw [hrepL];exact h.ldr.term,fun hl=>by rw [hrepL];exact h.ldr.cand hl,fun hl=>?_⟩
  obtain ⟨h1,h2⟩:=h.ldr.ldr hl;rw [hrepL]
  refine ⟨h1,fun g hg hgL=>?_⟩
  obtain ⟨a1,a2,a3,a4⟩:=h2 g hg hgL;exact ⟨a1,a2,a3,Int.le_trans a4 (Int.ofNat_le.2 (hlens g))⟩
 ·rw [hrepL];exact h.cmt hl
 ·rw [hrepL]
  rcases h.prog hl g hg hgL hu with h1|⟨k2,h1,h2,h3⟩
  ·exact .inl h1
  ·rcases List.mem_cons.1 h1 with rfl|h1
   ·exact .inr ⟨k',by simp,by rw [hisL];exact h2,by rw [hof,←hk];exact h3⟩
   ·exact .inr ⟨k2,by simp [h1],h2,h3⟩
 ·obtain ⟨k2,h1,h2,h3⟩:=h.start hl
  rcases List.mem_cons.1 h1 with rfl|h1
  ·exact ⟨k',by simp,by rw [hisL];exact h2,by rw [hof,←hk];exact h3⟩
  ·exact ⟨k2,by simp [h1],h2,h3⟩
 ·have h1:=h.recs i hi
  rw [hrep]
  split
  ·rename_i e
   subst e;omega
  ·omega
theorem zf4 (h:FInv K up L t F lead (k::ks) q) {lead':Bool} {r':RepD} {new:List MK} (hx:(q.rep L).handle (k.msg L t F)=(r',new.map (MK.msg L t F))) (hto:(k.msg L t F).to=L) {d':Nat} (hdd:q.done.length≤d') (hr':RInv L t F d' L r') (hj:r'.j=(q.rep L).j) (hrec:r'.recs=(q.rep L).recs) (hdn:QuoD.note1 q.done r'=(F.take d').map (·.2)) (hd':d'≤F.length)
 (hro:lead'=true) (hr3:r'.role=3) (hx3:∀ g:Nat,g<3→g≠L→0≤r'.nx g∧r'.nx g≤F.length∧0≤r'.mt g∧r'.mt g≤(q.rep g).j.log.length) (hcm:tAt F (F.length-1)=t→(∃ f:Nat,f<3∧f≠L∧r'.mt f=F.length)→r'.commit=F.length) (hmk:lead=true→∀ g:Nat,g<3→g≠L→(q.rep L).mt g=F.length→r'.mt g=F.length)
 (hnew:∀ k2∈new,∃ f i c,k2=.app f i c∧f<3∧f≠L∧i≤F.length∧0≤c∧c≤d' ) (hw:mu (lensQ q) new+1≤k.w (lensQ q)) (hp1:lead=false→∀ g:Nat,g<3→g≠L→∃ k2∈new,k2.of=g) (hp2:lead=true→k.isL=true→r'.mt k.of=F.length∨∃ k2∈new,k2.of=k.of) :
 ∃ q',QuoD.deliver { q with net:=ks.map (MK.msg L t F) } (k.msg L t F)=q'∧FInv K up L t F lead' (ks++new) q'∧mu (lensQ q') (ks++new)<mu (lensQ q) (k::ks)∧q.done.length≤q'.done.length:=by
 subst hro
 have hcons:=zb4 (lensQ q) k ks
 have hsm:=h.small
 have hkl:=zio (lensQ q) ks
 have hnl:=zio (lensQ q) new
 refine ⟨_,zkh (q:={ q with net:=ks.map (MK.msg L t F) }) (j:=L) h.len h.L3 hto hx (by simp;omega) (fun i hi _=>(h.reps i hi).c0.2.1) hr'.c0.2.2,?_⟩
 simp only [hdn]
 obtain ⟨q',hq'⟩:∃ q':QuoD,q'=⟨q.reps.set L r',ks.map (MK.msg L t F)++new.map (MK.msg L t F),(F.take d').map (·.2)⟩:=⟨_,rfl⟩
 rw [←hq']
 have hrep:∀ i:Nat,q'.rep i=if L=i then r' else q.rep i:=fun i=>by rw [hq'];exact zde h.len h.L3 i
 have hrepL:q'.rep L=r':=by rw [hrep,if_pos rfl]
 have hlog:∀ i:Nat,(q'.rep i).j=(q.rep i).j:=fun i=>by
  rw [hrep]
  split
  ·rename_i e;subst e;exact hj
  ·rfl
 have hdl:q'.done.length=d':=by rw [hq'];simp;omega
 have hlens:lensQ q'=lensQ q:=by funext g;unfold lensQ;rw [hlog]
 have hmu:mu (lensQ q') (ks++new)+1≤mu (lensQ q) (k::ks):=by
  rw [hlens,zm5,zb4];omega
 refine ⟨⟨by rw [hq'];simp [h.len],h.L3,h.upL,h.t1,h.lg,fun i hi=>?_,by rw [hq'];simp,fun k2 hk2=>?_,?_,by rw [hdl];exact ⟨by rw [hq'],hd'⟩,fun _=>?_,fun _ g hg hgL hu=>?_,nofun,fun i hi=>?_,by omega⟩,by omega,by rw [List.length_map,List.length_take];omega⟩
 ·rw [hrep,hdl]
  split
  ·rename_i e;subst e;exact hr'
  ·exact (h.reps i hi).mono hdd
 ·rw [hdl]
  rcases List.mem_append.1 hk2 with hk2|hk2
  ·obtain ⟨h1,h2,h3⟩:=h.kinv k2 (by simp [hk2])
   refine ⟨h1,h2,?_⟩
   cases k2 with
   | app f i c=>exact ⟨rfl,h3.2.1,h3.2.2.1,by have:=h3.2.2.2;omega⟩
   | good g=>exact ⟨rfl,by rw [hlog];exact h3.2⟩
   | bad g i=>exact ⟨rfl,by rw [hlog];exact h3.2⟩
   | _=>trivial
  ·obtain ⟨f,i,c,rfl,h1,h2,h3,h4,h5⟩:=hnew k2 hk2
   exact ⟨h1,h2,rfl,h3,h4,h5⟩
 ·refine ⟨by rw [hlog];exact h.ldr.log,by rw [hlog];exact h.ldr.term,nofun,fun _=>?_⟩
  rw [hrepL]
  refine ⟨hr3,fun g hg hgL=>?_⟩
  rw [hlog];exact hx3 g hg hgL
 ·rw [hrepL];exact hcm
 ·rw [hrepL]
  cases lead with
  | false =>
    obtain ⟨k2,h1,h2⟩:=hp1 rfl g hg hgL;obtain ⟨f,i,c,rfl,_⟩:=hnew k2 h1
    exact .inr ⟨.app f i c,by simp [h1],rfl,h2⟩
  | true =>
    rcases h.prog rfl g hg hgL hu with h1|⟨k2,h1,h2,h3⟩
    ·exact .inl (hmk rfl g hg hgL h1)
    ·rcases List.mem_cons.1 h1 with rfl|h1
     ·rcases hp2 rfl h2 with h4|⟨k3,h4,h5⟩
      ·rw [h3] at h4
       exact .inl h4
      ·obtain ⟨f,i,c,rfl,_⟩:=hnew k3 h4
       exact .inr ⟨.app f i c,by simp [h4],rfl,by rw [h5];exact h3⟩
     ·exact .inr ⟨k2,by simp [h1],h2,h3⟩
 ·have h1:=h.recs i hi
  have e:(q'.rep i).recs=(q.rep i).recs:=by
   rw [hrep]
   split
   ·rename_i e;subst e;exact hrec
   ·rfl
  rw [e,hlog];omega
theorem zcq {dn:List EnD} {r:RepD} (h:r.commit≤dn.length):QuoD.note1 dn r=dn:=by unfold QuoD.note1;rw [if_pos h]
theorem fstep (h:FInv K up L t F lead (k::ks) q):∃ lead' new q',QuoD.deliver { q with net:=ks.map (MK.msg L t F) } (k.msg L t F)=q'∧FInv K up L t F lead' (ks++new) q'∧mu (lensQ q') (ks++new)<mu (lensQ q) (k::ks)∧q.done.length≤q'.done.length∧(lead=true→lead'=true):=by
 obtain ⟨hk1,hk2,hk3⟩:=h.kinv k (by simp)
 have hfl:=(h.reps _ hk1)
 have hLd:=h.reps L h.L3
 have hlg:=h.lg
 have hd4:q.done.length≤4096:=Nat.le_trans h.done.2 hlg.len
 cases k with
 | vote f =>
   dsimp only [MK.of] at hk1 hk2 hfl;obtain ⟨a1,a2,a3,a4,a5⟩:=qdi h.L3 hk1 hk2 h.t1 hlg hfl
   obtain ⟨q',b1,b2,b3,b4⟩:=zi2 h hk1 hk2 rfl (k':=.voted f) (Prod.ext rfl a1) rfl a2 (.inl a3) (by rw [a3];exact Nat.le_trans (Nat.add_le_add_right a4 _) (by omega)) rfl rfl trivial (by simp [MK.w]) (by nofun)
   exact ⟨lead,_,q',b1,b2,b3,b4,id⟩
 | app f i c =>
   dsimp only [MK.of] at hk1 hk2 hfl;obtain ⟨hl,hi,hc0,hc⟩:=hk3;obtain ⟨a1,a2,a3,a4⟩:=qdr h.L3 hk1 hk2 h.t1 hlg hfl hd4 hi ⟨hc0,hc⟩ rfl
   by_cases hil:i≤(q.rep f).j.log.length
   ·rw [if_pos hil] at a1 a3
    obtain ⟨q',b1,b2,b3,b4⟩:=zi2 h hk1 hk2 rfl (k':=.good f) (Prod.ext rfl a1) rfl a2 (.inr a3) a4 rfl rfl ⟨hl,a3⟩ (by simp [MK.w];split<;>omega) (by nofun)
    exact ⟨lead,_,q',b1,b2,b3,b4,id⟩
   ·
    rw [if_neg hil] at a1 a3
    obtain ⟨q',b1,b2,b3,b4⟩:=zi2 h hk1 hk2 rfl (k':=.bad f (q.rep f).j.log.length) (Prod.ext rfl a1) rfl a2 (.inl a3) a4 rfl rfl ⟨hl,by rw [a3];exact Nat.le_refl _⟩ (by simp [MK.w,lensQ,hil]) (by nofun)
    exact ⟨lead,_,q',b1,b2,b3,b4,id⟩
 | voted f =>
   dsimp only [MK.of] at hk1 hk2 hfl
   cases lead with
   | false =>
     obtain ⟨c1,c2⟩:=h.ldr.cand rfl;obtain ⟨a1,a2,a3,a4,a5,a6,a7⟩:=qci h.L3 hk1 hk2 h.t1 hlg hLd h.ldr.log h.ldr.term c1 c2 rfl
     have hx:(q.rep L).handle ((MK.voted f).msg L t F)=(((q.rep L).handle ((MK.voted f).msg L t F)).1,((oth L).map fun g=>MK.app g F.length (q.rep L).commit).map (MK.msg L t F)):=Prod.ext rfl (by rw [a1,List.map_map];rfl)
     have hcc:=hLd.c0
     obtain ⟨q',b1,b2,b3,b4⟩:=zf4 h (lead':=true) hx rfl (Nat.le_refl _) a2 a3 a4 (by rw [zcq (by rw [a5];exact hcc.2.1)];exact h.done.1) h.done.2 rfl a6 (fun g hg hgL=>by rw [(a7 g hg).1,(a7 g hg).2];omega) (fun e ⟨g,hg,hgL,hm⟩=>by
      rw [(a7 g hg).2] at hm
      have h1:=h.t1
      rw [zdm (by omega)] at e
      omega) nofun (fun k2 hk2=>by
      rw [List.mem_map] at hk2;obtain ⟨g,hg,rfl⟩:=hk2
      exact ⟨g,_,_,rfl,(zc8.1 hg).1,(zc8.1 hg).2,Nat.le_refl _,hcc.1,hcc.2.1⟩) (by
      have hb:∀ (l:List Nat),mu (lensQ q) (l.map fun g=>MK.app g F.length (q.rep L).commit)≤4 * l.length:=by
       intro l
       induction l with
       | nil=>simp [mu]
       | cons x l ih =>
         rw [List.map_cons,zb4,List.length_cons]
         have:(MK.app x F.length (q.rep L).commit).w (lensQ q)≤4:=by simp only [MK.w];split<;>omega
         omega
      have ho:(oth L).length=2:=by
       have:=h.L3
       have:L=0∨L=1∨L=2:=by omega
       rcases this with rfl|rfl|rfl<;>rfl
      have:=hb (oth L)
      rw [ho] at this;simp only [MK.w]
      omega) (fun _ g hg hgL=>⟨_,List.mem_map.2 ⟨g,zc8.2 ⟨hg,hgL⟩,rfl⟩,rfl⟩) nofun
     exact ⟨true,_,q',b1,b2,b3,b4,fun _=>rfl⟩
   | true =>
     obtain ⟨c1,c2⟩:=h.ldr.ldr rfl
     have hx:=zc4 h.L3 hk1 hk2 h.t1 hlg hLd h.ldr.term c1 (f:=f)
     obtain ⟨q',b1,b2,b3,b4⟩:=zf4 h (lead':=true) (new:=[]) hx rfl (Nat.le_refl _) hLd rfl rfl (by rw [zcq hLd.c0.2.1];exact h.done.1) h.done.2 rfl c1 c2 (h.cmt rfl) (fun _ _ _ _ h=>h) (by simp) (by simp [mu,MK.w]) nofun nofun
     exact ⟨true,_,q',b1,b2,b3,b4,fun _=>rfl⟩
 | bad f i =>
   dsimp only [MK.of] at hk1 hk2 hfl;obtain ⟨rfl,hi⟩:=hk3;obtain ⟨c1,c2⟩:=h.ldr.ldr rfl
   have hiF:i≤F.length:=Nat.le_trans hi hfl.pre.length_le
   obtain ⟨i',a0,a1,a2,a3,a4,a5,a6,a7,a8⟩:=qdq h.L3 hk1 hk2 h.t1 hlg hLd h.ldr.log h.ldr.term c1 (fun g hg hgL=>⟨(c2 g hg hgL).1,(c2 g hg hgL).2.1⟩) hiF rfl
   have hcc:=hLd.c0
   have hmt:∀ g:Nat,(((q.rep L).handle ((MK.bad f i).msg L t F)).1).mt g=(q.rep L).mt g:=fun g=>by unfold RepD.mt;rw [a7]
   obtain ⟨q',b1,b2,b3,b4⟩:=zf4 h (lead':=true) (new:=[.app f i' (q.rep L).commit]) (Prod.ext rfl a1) rfl (Nat.le_refl _) a2 a3 a4 (by rw [zcq (by rw [a5];exact hcc.2.1)];exact h.done.1) h.done.2 rfl a6 (fun g hg hgL=>⟨(a8 g hg hgL).1,(a8 g hg hgL).2,by rw [hmt];exact (c2 g hg hgL).2.2.1,by rw [hmt];exact (c2 g hg hgL).2.2.2⟩) (fun e ⟨g,hg,hgL,hm⟩=>by rw [a5];exact h.cmt rfl e ⟨g,hg,hgL,by rw [←hmt];exact hm⟩) (fun _ g _ _ h=>by rw [hmt];exact h) (fun k2 hm2=>by
    obtain rfl:k2=_:=by simpa using hm2
    exact ⟨f,i',_,rfl,hk1,hk2,by omega,hcc.1,hcc.2.1⟩) (by
    have hle:i'≤lensQ q f:=Nat.le_trans a0 hi
    simp only [mu,List.map_cons,List.map_nil,List.sum_cons,List.sum_nil,MK.w];rw [if_pos hle]
    omega) nofun (fun _ _=>.inr ⟨.app f i' (q.rep L).commit,by simp,rfl⟩)
   exact ⟨true,_,q',b1,b2,b3,b4,fun _=>rfl⟩
 | good f =>
   dsimp only [MK.of] at hk1 hk2 hfl;obtain ⟨rfl,hlog⟩:=hk3;obtain ⟨c1,c2⟩:=h.ldr.ldr rfl
   have hF':∀ g:Nat,g<3→(q.rep g).j.log.length≤F.length:=fun g hg=>(h.reps g hg).pre.length_le
   obtain ⟨c,a1,a2,a3,a4,a5,a6,a7,a8,a9,a10,a11,a12⟩:=qdj h.L3 hk1 hk2 h.t1 hlg hLd h.ldr.log h.ldr.term c1 (fun g hg hgL=>⟨(c2 g hg hgL).1,(c2 g hg hgL).2.1,(c2 g hg hgL).2.2.1,by have:=(c2 g hg hgL).2.2.2;have:=hF' g hg;omega⟩) rfl
   have hcc:=hLd.c0
   have hlogf:(q.rep f).j.log=F:=hlog
   obtain ⟨r',hr'⟩:∃ r',r'=((q.rep L).handle ((MK.good f).msg L t F)).1:=⟨_,rfl⟩;rw [←hr'] at a4 a5 a6 a7 a8 a10 a11 a12
   have hx3:∀ g:Nat,g<3→g≠L→0≤r'.nx g∧r'.nx g≤F.length∧0≤r'.mt g∧r'.mt g≤(q.rep g).j.log.length:=fun g hg hgL=>by
    refine ⟨(a12 g hg hgL).1,(a12 g hg hgL).2,?_⟩
    by_cases e:g=f
    ·subst e
     rw [a10,hlogf];omega
    ·rw [a11 g hg e]
     exact (c2 g hg hgL).2.2
   have hmk:true=true→∀ g:Nat,g<3→g≠L→(q.rep L).mt g=F.length→r'.mt g=F.length:=fun _ g hg hgL hm=>by
    by_cases e:g=f
    ·subst e;exact a10
    ·rw [a11 g hg e];exact hm
   have hnote:QuoD.note1 q.done r'=(F.take (max q.done.length c.toNat)).map (·.2):=by
    unfold QuoD.note1;rw [a4]
    split
    ·rename_i hle
     rw [show max q.done.length c.toNat=q.done.length by omega]
     exact h.done.1
    ·rename_i hgt
     rw [a6,h.ldr.log,show max q.done.length c.toNat=c.toNat by omega]
   obtain ⟨q',b1,b2,b3,b4⟩:=zf4 h (lead':=true) (new:=[]) (Prod.ext hr'.symm a1) rfl (Nat.le_max_left _ c.toNat) a5 a6 a7 hnote (by have:=h.done.2;omega) rfl a8 hx3 (fun e _=>by rw [a4];exact a9 e) hmk (by simp) (by simp [mu,MK.w]) nofun (fun _ _=>.inl a10)
   exact ⟨true,_,q',b1,b2,b3,b4,fun _=>rfl⟩
end
section
variable {K:Nat} {up:Int} {L:Nat} {t:Int} {F:LogD} {q:QuoD}
theorem zsp (hL:QuoD.upB up L=true) (k:MK):(QuoD.upB up (k.msg L t F).src=false∨QuoD.upB up (k.msg L t F).to=false)↔QuoD.upB up k.of=false:=by
 cases k<;>simp [MK.msg,MK.of,hL]
theorem zi5:∀ (fuel n:Nat) (lead:Bool) (ks:List MK) (q:QuoD),FInv K up L t F lead ks q→mu (lensQ q) ks≤fuel→n+mu (lensQ q) ks≤5000→∃ lead',FInv K up L t F lead' [] (QuoD.flush fuel up n q)∧q.done.length≤(QuoD.flush fuel up n q).done.length∧(lead=true→lead'=true)
 | 0, n, lead, ks, q, h, hf, _ => by
   have h1:=zio (lensQ q) ks
   have h2:ks=[]:=List.eq_nil_of_length_eq_zero (by omega)
   subst h2;exact ⟨lead,h,Nat.le_refl _,id⟩
 | fuel + 1, n, lead, [], q, h, _, _ => by
   have hn:q.net=[]:=h.net
   rw [QuoD.flush,hn];exact ⟨lead,h,Nat.le_refl _,id⟩
 | fuel + 1, n, lead, k :: ks, q, h, hf, hn => by
   have hnet:q.net=k.msg L t F::ks.map (MK.msg L t F):=h.net
   have hw:=qbd (lensQ q) k
   have hm:=zb4 (lensQ q) k ks
   rw [QuoD.flush,hnet];simp only
   rw [if_neg (by omega)]
   by_cases hup:QuoD.upB up (k.msg L t F).src=false∨QuoD.upB up (k.msg L t F).to=false
   ·rw [if_pos hup]
    have hd:=zkb h ((zsp h.upL k).1 hup)
    have hl:lensQ { q with net:=ks.map (MK.msg L t F) }=lensQ q:=rfl
    exact zi5 fuel n lead ks _ hd (by rw [hl];omega) (by rw [hl];omega)
   ·rw [if_neg hup]
    obtain ⟨lead',new,q',h1,h2,h3,h7,h4⟩:=fstep h;rw [h1]
    obtain ⟨lead2,h5,h8,h6⟩:=zi5 fuel (n+1) lead' _ q' h2 (by omega) (by omega)
    exact ⟨lead2,h5,Nat.le_trans h7 h8,fun h=>h6 (h4 h)⟩
end
def topT (E:LogD):Int:=tAt E (E.length-1)
theorem RInv.ext {L:Nat} {t:Int} {E F:LogD} {d:Nat} {i:Nat} {r:RepD} (h:RInv L t E d i r) (hp:E <+: F):RInv L t F d i r :=
 ⟨h.id,h.n,h.nl,h.ml,h.disk,h.pre.trans hp,h.t0,h.tt,h.last,h.v0,h.vt,h.c0,h.role⟩
abbrev Led (K:Nat) (L:Nat) (t:Int) (E:LogD) (q:QuoD):Prop:=FInv K (2 ^ L) L t E true [] q
theorem qbi (L:Nat):QuoD.upB (2 ^ L) L=true:=by
 have h:((2:Int) ^ L).toNat=2 ^ L:=by
  have:((2:Int) ^ L)=((2 ^ L:Nat):Int):=by simp
  rw [this,Int.toNat_natCast]
 simp [QuoD.upB,h,Nat.testBit_two_pow_self]
theorem zls {L f:Nat} (h:f≠L):QuoD.upB (2 ^ L) f=false:=by
 have h1:((2:Int) ^ L).toNat=2 ^ L:=by
  have:((2:Int) ^ L)=((2 ^ L:Nat):Int):=by simp
  rw [this,Int.toNat_natCast]
 have:(2 ^ L).testBit f=false:=by rw [Nat.testBit_two_pow];simp;omega
 simp [QuoD.upB,h1,this]
theorem FInv.led {K:Nat} {up:Int} {L:Nat} {t:Int} {E:LogD} {q:QuoD} (h:FInv K up L t E true [] q):Led K L t E q :=
 ⟨h.len,h.L3,qbi L,h.t1,h.lg,h.reps,h.net,h.kinv,h.ldr,h.done,h.cmt,fun _ f _ hne hu=>(by rw [zls hne] at hu;cases hu),nofun,h.recs,h.small⟩
section
variable {K:Nat} {up:Int} {L:Nat} {t:Int} {E:LogD} {q:QuoD}
theorem qcz {r:RepD} {m:Nat} (hn:r.n=3) (hid:r.id=L) (hm:∀ g:Nat,g<3→g≠L→r.mt g≤m) (hc:r.commit≤m):∃ c,r.advGo (m+1)={ r with commit:=c }∧r.commit≤c∧c≤m:=by
 have hh:r.holders ((m:Int)+1)=1:=by
  unfold RepD.holders;rw [hn]
  have:(List.range (3:Int).toNat).filter (fun (i:Nat)=>decide (((i:Nat):Int)≠r.id) && decide ((m:Int)+1≤r.mt i))=[]:=by
   rw [List.filter_eq_nil_iff];intro i hi;simp only [Bool.and_eq_true,decide_eq_true_eq,hid]
   rintro ⟨h1,h2⟩
   have h3:i<3:=by simpa using hi
   have:=hm i h3 (by omega)
   omega
  rw [this];rfl
 obtain ⟨c,h1,h2,h3⟩:=zqv r m
 have hcm:c≤m:=by rcases h3 with h|h<;>omega
 rw [RepD.advGo]
 split
 ·exact ⟨r.commit,rfl,Int.le_refl _,hc⟩
 ·split
  ·exact ⟨c,h1,h2,hcm⟩
  ·rw [if_neg (by rw [hh,hn];omega)]
   exact ⟨c,h1,h2,hcm⟩
theorem zdq (h:Led K L t E q) (hdn:q.done.length=E.length) (hup:QuoD.upB up L=true) {e:EnD} (hs:shapeB e=true) (hlen:E.length<4096) :
 (q.propose L e).2=0∧∃ ks,FInv (K+16) up L t (E++[(t,e)]) true ks (q.propose L e).1∧ks.length≤2:=by
 have hL:=h.reps L h.L3
 obtain ⟨h3,hx⟩:=h.ldr.ldr rfl
 have hlog:=h.ldr.log
 have htm:=h.ldr.term
 have ht1:=h.t1
 have hput:=zid (r:=q.rep L) (a:=t) (e:=e) (by omega) hs (by omega) (by rw [hlog];exact (zc2 h.lg (by omega) _).2) (by rw [hlog];exact hlen)
 have hdisk:=RepD.put_disk hL.disk (.ent t e)
 have hadd:=zqx (j:=(q.rep L).j) (a:=t) (e:=e) (by omega) hs (by omega) (by rw [hlog];exact (zc2 h.lg (by omega) _).2) (by rw [hlog];exact hlen)
 obtain ⟨F,hF⟩:∃ F,F=E++[(t,e)]:=⟨_,rfl⟩
 have hFl:F.length=E.length+1:=by rw [hF];simp
 have hEF:E <+: F:=by rw [hF];exact List.prefix_append _ _
 have hF0:(q.rep L).j.log++[(t,e)]=F:=by rw [hlog,hF]
 have hcE:(q.rep L).commit≤E.length:=by have:=hL.c0;rw [hlog] at this;exact this.2.2
 have hmE:∀ g:Nat,g<3→g≠L→(q.rep L).mt g≤E.length:=fun g hg hgL=>by
  have h1:=(hx g hg hgL).2.2.2
  have h2:=(h.reps g hg).pre.length_le
  omega
 obtain ⟨r1,hr1⟩:∃ r1,r1=(q.rep L).put (.ent t e):=⟨_,rfl⟩
 have e1:r1={ q.rep L with j:={ (q.rep L).j with log:=F },recs:=(q.rep L).recs++[.ent t e] }:=by rw [hr1,hput,hF0]
 obtain ⟨c,a1,a2,a3⟩:=qcz (r:=r1) (L:=L) (m:=E.length) (by rw [e1];exact hL.n) (by rw [e1];exact hL.id) (by rw [e1];exact hmE) (by rw [e1];exact hcE)
 have hadv:r1.advance={ r1 with commit:=c }:=by
  unfold RepD.advance
  rw [show r1.j.log=F by rw [e1],hFl]
  exact a1
 obtain ⟨r2,hr2⟩:∃ r2,r2=r1.advance:=⟨_,rfl⟩
 have e2:r2={ q.rep L with j:={ (q.rep L).j with log:=F },recs:=(q.rep L).recs++[.ent t e],commit:=c }:=by rw [hr2,hadv,e1]
 have hpr:(q.rep L).propose e=(r2,r2.others r2.appending,0):=by
  unfold RepD.propose
  rw [if_neg (by rw [h3];decide),htm,hadd]
  simp only [ne_eq,not_true_eq_false,if_false];rw [←hr1,←hr2]
 have hout:r2.others r2.appending=((oth L).map fun g=>MK.app g ((q.rep L).nx g).toNat c).map (MK.msg L t F):=by
  rw [zbk (L:=L) (by rw [e2];exact hL.id) (by rw [e2];exact hL.n),List.map_map]
  refine List.map_congr_left fun g hg=>?_
  have hg':=zc8.1 hg
  have hn:r2.nx g=(q.rep L).nx g:=by rw [e2];rfl
  rw [zbw (L:=L) (t:=t) (F:=F) (by rw [e2];exact hL.id) (by rw [e2];exact htm) (by rw [e2]) g (by rw [hn];exact (hx g hg'.1 hg'.2).1),hn,show r2.commit=c by rw [e2]]
  rfl
 obtain ⟨new,hnew⟩:∃ new,new=(oth L).map fun g=>MK.app g ((q.rep L).nx g).toNat c:=⟨_,rfl⟩
 rw [←hnew] at hout
 have hol:new.length=2:=by
  have:=h.L3
  have:L=0∨L=1∨L=2:=by omega
  rw [hnew,List.length_map]
  rcases this with rfl|rfl|rfl<;>rfl
 have hnet0:q.net=[]:=h.net
 have hc0:=hL.c0
 have hr2c:r2.commit=c:=by rw [e2]
 have hrc:(q.rep L).commit≤c:=by rw [e1] at a2;exact a2
 have hqq:q.propose L e=(⟨q.reps.set L r2,new.map (MK.msg L t F),q.done⟩,0):=by
  have hlen3:=h.len
  have hhas:q.has L=true:=by
   have h3:=h.L3
   unfold QuoD.has;rw [hlen3];simp;omega
  unfold QuoD.propose
  rw [if_neg (by rw [hhas];simp),hpr]
  simp only [ne_eq,not_true_eq_false,if_false];refine Prod.ext ?_ rfl;obtain ⟨rs,net,dn⟩:=q;simp only at hnet0;subst hnet0;simp only [QuoD.send,QuoD.set,Int.toNat_natCast]
  rw [zd0 _ _ (by rw [hout];simp;omega),List.nil_append,hout]
  have e9:QuoD.rep ⟨rs.set L r2,new.map (MK.msg L t F),dn⟩ L=r2:=by rw [zde hlen3 h.L3,if_pos rfl]
  rw [zhh (j:=L) (by simpa using hlen3) h.L3,e9,zcq]
  ·rw [hr2c]
   show c≤(dn.length:Int)
   have hdn':dn.length=E.length:=hdn
   omega
  ·intro i hi hij
   rw [zde hlen3 h.L3,if_neg (Ne.symm hij)];exact (h.reps i hi).c0.2.1
  ·rw [e9,hr2c,e2]
   show c≤(F.length:Int)
   omega
 rw [hqq]
 refine ⟨rfl,new,?_,by omega⟩
 obtain ⟨q',hq'⟩:∃ q':QuoD,q'=⟨q.reps.set L r2,new.map (MK.msg L t F),q.done⟩:=⟨_,rfl⟩;rw [←hF]
 show FInv (K+16) up L t F true new ⟨q.reps.set L r2,new.map (MK.msg L t F),q.done⟩
 rw [←hq']
 have hrep:∀ i:Nat,q'.rep i=if L=i then r2 else q.rep i:=fun i=>by rw [hq'];exact zde h.len h.L3 i
 have hrepL:q'.rep L=r2:=by rw [hrep,if_pos rfl]
 have hdq:q'.done=q.done:=by rw [hq']
 have hwb:∀ (l:List Nat) (len:Nat→Nat),mu len (l.map fun g=>MK.app g ((q.rep L).nx g).toNat c)≤4 * l.length:=by
  intro l len
  induction l with
  | nil=>simp [mu]
  | cons x l ih =>
    rw [List.map_cons,zb4,List.length_cons]
    have:(MK.app x ((q.rep L).nx x).toNat c).w len≤4:=by simp only [MK.w];split<;>omega
    omega
 have hmu:mu (lensQ q') new≤8:=by
  have:=hwb (oth L) (lensQ q')
  rw [←hnew] at this
  have h2:(oth L).length=2:=by rw [hnew,List.length_map] at hol;exact hol
  omega
 have hmtL:∀ g:Nat,r2.mt g=(q.rep L).mt g:=fun g=>by rw [e2];rfl
 have hlo:LogOk t F:=by
  have hE:=h.lg
  refine ⟨fun x hx'=>?_,?_,by omega⟩
  ·rw [hF] at hx'
   rcases List.mem_append.1 hx' with hx'|hx'
   ·exact hE.low x hx'
   ·obtain rfl:x=(t,e):=by simpa using hx'
    exact ⟨ht1.1,Int.le_refl _,hs⟩
  ·rw [hF,List.pairwise_append]
   refine ⟨hE.sorted,by simp,fun x hx' y hy=>?_⟩
   obtain rfl:y=(t,e):=by simpa using hy
   exact (hE.low x hx').2.1
 refine ⟨by rw [hq'];simp [h.len],h.L3,hup,ht1,hlo,fun i hi=>?_,by rw [hq'],fun k hk=>?_,?_,?_,fun _ _ ⟨g,hg,hgL,hm⟩=>?_,fun _ g hg hgL _=>?_,nofun,fun i hi=>?_,by omega⟩
 ·rw [hrep,hdq]
  split
  ·rename_i e;subst e
   have hd2:r1.Disk:=by rw [hr1];exact hdisk
   rw [e1] at hd2;rw [e2]
   refine ⟨hL.id,hL.n,hL.nl,hL.ml,hd2,List.prefix_refl _,hL.t0,hL.tt,?_,hL.v0,hL.vt,?_,fun h=>absurd rfl h⟩
   ·show tAt F (F.length-1)≤(q.rep L).j.term
    rw [htm]
    exact (zc2 hlo (by omega) _).2
   ·show 0≤c∧c≤(q.done.length:Int)∧c≤(F.length:Int)
    omega
  ·exact (h.reps i hi).ext hEF
 ·rw [hnew,List.mem_map] at hk
  obtain ⟨g,hg,rfl⟩:=hk
  have hg':=zc8.1 hg
  have hxg:=hx g hg'.1 hg'.2
  refine ⟨hg'.1,hg'.2,rfl,by omega,by omega,by rw [hdq];omega⟩
 ·refine ⟨by rw [hrepL,e2],by rw [hrepL,e2];exact htm,nofun,fun _=>?_⟩
  rw [hrepL]
  refine ⟨by rw [e2];exact h3,fun g hg hgL=>?_⟩
  have hxg:=hx g hg hgL
  have hn:r2.nx g=(q.rep L).nx g:=by rw [e2];rfl
  rw [hn,hmtL,hrep,if_neg (Ne.symm hgL)]
  refine ⟨hxg.1,by omega,hxg.2.2⟩
 ·rw [hdq]
  have:=h.done
  refine ⟨?_,by omega⟩
  rw [this.1,hF];simp only [List.length_map,List.length_take]
  rw [List.take_append_of_le_length (by omega)]
  simp only [hdn,Nat.min_self]
 ·rw [hrepL,hmtL] at hm
  have:=hmE g hg hgL
  omega
 ·exact .inr ⟨_,by rw [hnew];exact List.mem_map.2 ⟨g,zc8.2 ⟨hg,hgL⟩,rfl⟩,rfl,rfl⟩
 ·have h1:=h.recs i hi
  have h0:mu (lensQ q) []=0:=rfl
  rw [h0] at h1;rw [hrep]
  split
  ·rename_i e;subst e
   rw [e2];simp only [List.length_append,List.length_singleton,hFl];rw [hlog] at h1;omega
  ·omega
end
structure NoLed (K:Nat) (E:LogD) (q:QuoD):Prop where
 len:q.reps.length=3
 net:q.net=[]
 lg:LogOk (topT E) E
 reps:∀ i:Nat,i<3→RInv 3 (topT E+1) E E.length i (q.rep i)∧(q.rep i).j.term≤topT E
 recs:∀ i:Nat,i<3→(q.rep i).recs.length≤(q.rep i).j.log.length+K
 done:q.done=E.map (·.2)
 top:0≤topT E∧topT E≤900000
section
variable {K:Nat} {up:Int} {E:LogD} {q:QuoD}
theorem LogOk.more {t t':Int} {F:LogD} (h:LogOk t F) (ht:t≤t'):LogOk t' F:=⟨fun x hx=>by have:=h.low x hx;exact ⟨this.1,by omega,this.2.2⟩,h.sorted,h.len⟩
theorem zjf (h:NoLed K E q) {b:Nat} (hb:b<3) (hlog:(q.rep b).j.log=E) (hup:QuoD.upB up b=true) (hg:∃ g:Nat,g<3∧g≠b∧QuoD.upB up g=true) :
 FInv (K+41) up b (topT E+1) E false ((oth b).map .vote) (q.campaign b)∧(q.campaign b).done=q.done:=by
 obtain ⟨hB,hBt⟩:=h.reps b hb
 have hT:=h.top
 have htm:(q.rep b).j.term=topT E:=by
  have:=hB.last
  rw [hlog] at this;unfold topT at *;omega
 have hrem:=zbi (r:=q.rep b) (t:=topT E+1) (v:=b) (by omega) (by omega) (by omega) (by omega)
 have hdisk:=RepD.put_disk hB.disk (.term (topT E+1) b)
 obtain ⟨r1,hr1⟩:∃ r1:RepD,r1={ (q.rep b).remember (topT E+1) b with role:=2,votes:=2 ^ b }:=⟨_,rfl⟩
 have e1:r1={ q.rep b with role:=2,votes:=2 ^ b,j:={ (q.rep b).j with term:=topT E+1,vote:=b },recs:=(q.rep b).recs++[.term (topT E+1) b] }:=by rw [hr1,hrem]
 have hcam:(q.rep b).campaign=(r1,((oth b).map MK.vote).map (MK.msg b (topT E+1) E)):=by
  unfold RepD.campaign
  rw [if_neg (by omega)]
  simp only [htm,hB.id,Int.toNat_natCast]
  rw [if_neg (by rw [hB.n];decide),←hr1]
  refine Prod.ext rfl ?_;dsimp only
  rw [zbk (L:=b) (by rw [e1];exact hB.id) (by rw [e1];exact hB.n),List.map_map]
  refine List.map_congr_left fun g hg=>?_
  have hl1:r1.j.log=E:=by rw [e1];exact hlog
  simp only [RepD.msg,RepD.len,RepD.lastTerm,zat,hl1,Function.comp,MK.msg]
  rw [show r1.id=b by rw [e1];exact hB.id,show r1.j.term=topT E+1 by rw [e1]]
 have hdl:q.done.length=E.length:=by rw [h.done];simp
 have hqq:q.campaign b=⟨q.reps.set b r1,((oth b).map MK.vote).map (MK.msg b (topT E+1) E),q.done⟩:=by
  have hlen3:=h.len
  have hnet0:=h.net
  have hhas:q.has b=true:=by
   unfold QuoD.has;rw [hlen3];simp;omega
  unfold QuoD.campaign
  rw [if_neg (by rw [hhas];simp),hcam]
  have hc0:∀ i:Nat,i<3→(q.rep i).commit≤q.done.length:=fun i hi=>by have:=(h.reps i hi).1.c0;omega
  obtain ⟨rs,net,dn⟩:=q;simp only at hnet0;subst hnet0
  have hob:(oth b).length≤3:=by unfold oth;exact Nat.le_trans (List.length_filter_le _ _) (by simp)
  simp only [QuoD.send,QuoD.set,Int.toNat_natCast]
  rw [zd0 _ _ (by simp;omega),List.nil_append]
  have e9:QuoD.rep ⟨rs.set b r1,((oth b).map MK.vote).map (MK.msg b (topT E+1) E),dn⟩ b=r1:=by rw [zde hlen3 hb,if_pos rfl]
  have hrc:r1.commit=(QuoD.rep ⟨rs,[],dn⟩ b).commit:=by rw [e1]
  have hc1:=hB.c0
  rw [zhh (j:=b) (by simpa using hlen3) hb,e9,zcq]
  ·rw [hrc];exact hc0 b hb
  ·intro i hi hij
   rw [zde hlen3 hb,if_neg (Ne.symm hij)];exact hc0 i hi
  ·rw [e9,hrc,e1]
   exact hc1.2.2
 rw [hqq];refine ⟨?_,rfl⟩;obtain ⟨new,hnew⟩:∃ new,new=(oth b).map MK.vote:=⟨_,rfl⟩;rw [←hnew];obtain ⟨q',hq'⟩:∃ q':QuoD,q'=⟨q.reps.set b r1,new.map (MK.msg b (topT E+1) E),q.done⟩:=⟨_,rfl⟩;rw [←hq']
 have hrep:∀ i:Nat,q'.rep i=if b=i then r1 else q.rep i:=fun i=>by rw [hq'];exact zde h.len hb i
 have hrepL:q'.rep b=r1:=by rw [hrep,if_pos rfl]
 have hdq:q'.done=q.done:=by rw [hq']
 have hmu:mu (lensQ q') new=20:=by
  have:b=0∨b=1∨b=2:=by omega
  rw [hnew]
  rcases this with rfl|rfl|rfl<;>rfl
 refine ⟨by rw [hq'];simp [h.len],hb,hup,⟨by omega,by omega⟩,h.lg.more (by omega),fun i hi=>?_,by rw [hq'],fun k hk=>?_,?_,?_,nofun,nofun,fun _=>?_,fun i hi=>?_,by omega⟩
 ·rw [hrep,hdq,hdl]
  split
  ·rename_i e;subst e
   have hd2:r1.Disk:=by rw [hr1];exact hdisk
   rw [e1] at hd2 ⊢
   exact ⟨hB.id,hB.n,hB.nl,hB.ml,hd2,hB.pre,by simp;omega,by simp,by have:=hB.last;simp;omega,by simp;omega,fun _=>.inr rfl,hB.c0,fun h=>absurd rfl h⟩
  ·rename_i hne
   obtain ⟨h1,h2⟩:=h.reps i hi
   exact ⟨h1.id,h1.n,h1.nl,h1.ml,h1.disk,h1.pre,h1.t0,h1.tt,h1.last,h1.v0,fun e=>by omega,h1.c0,fun _=>h1.role (by omega)⟩
 ·rw [hnew,List.mem_map] at hk
  obtain ⟨g,hg,rfl⟩:=hk;exact ⟨(zc8.1 hg).1,(zc8.1 hg).2,trivial⟩
 ·refine ⟨by rw [hrepL,e1];exact hlog,by rw [hrepL,e1],fun _=>by rw [hrepL,e1];exact ⟨rfl,rfl⟩,nofun⟩
 ·rw [hdq,hdl,h.done]
  refine ⟨by rw [List.take_length],Nat.le_refl _⟩
 ·obtain ⟨g,h1,h2,h3⟩:=hg
  exact ⟨.vote g,by rw [hnew];exact List.mem_map.2 ⟨g,zc8.2 ⟨h1,h2⟩,rfl⟩,rfl,h3⟩
 ·have h1:=h.recs i hi
  rw [hmu,hrep]
  split
  ·rename_i e;subst e
   rw [e1];simp;omega
  ·omega
theorem zf5 {L:Nat} {t:Int} {F:LogD} {lead:Bool} {ks:List MK} (h:FInv K up L t F lead ks q):FInv K up L t F true [] (QuoD.flush 100000 up 0 q)∧q.done.length≤(QuoD.flush 100000 up 0 q).done.length:=by
 have hs:=h.small
 obtain ⟨lead',h1,h2,_⟩:=zi5 100000 0 lead ks q h (by omega) (by omega)
 cases lead' with
 | true=>exact ⟨h1,h2⟩
 | false =>
   obtain ⟨k,hk,_⟩:=h1.start rfl;simp at hk
theorem zgs {L:Nat} {t:Int} {F:LogD} {ks:List MK} (h:FInv K up L t F true ks q):q.leader=L:=by
 have h3:=(h.ldr.ldr rfl).1
 have hr:∀ i:Nat,i<3→i≠L→(q.rep i).role=1:=fun i hi hne=>(h.reps i hi).role hne
 unfold QuoD.leader;rw [reps3 h.len]
 have h0:=h.L3
 have:L=0∨L=1∨L=2:=by omega
 have s0:∀ (i:Nat) (b:Int),(q.rep i).role=1→(if (q.rep i).role=3∧(b<0∨(q.rep b).j.term<(q.rep i).j.term) then (i:Int) else b)=b:=fun i b hi=>by
  rw [if_neg]
  rintro ⟨h9,_⟩
  omega
 have s1:∀ i:Nat,(q.rep i).role=3→(if (q.rep i).role=3∧((-1:Int)<0∨(q.rep (-1)).j.term<(q.rep i).j.term) then (i:Int) else -1)=i:=fun i hi=>if_pos ⟨hi,.inl (by decide)⟩
 simp only [QuoD.leaderGo,Nat.zero_add,Nat.reduceAdd]
 rcases this with rfl|rfl|rfl
 ·rw [s1 0 h3,s0 1 _ (hr 1 (by omega) (by omega)),s0 2 _ (hr 2 (by omega) (by omega))]
 ·rw [s0 0 _ (hr 0 (by omega) (by omega)),s1 1 h3,s0 2 _ (hr 2 (by omega) (by omega))]
 ·rw [s0 0 _ (hr 0 (by omega) (by omega)),s0 1 _ (hr 1 (by omega) (by omega)),s1 2 h3]
theorem zm9 (h:NoLed K E q):q.leader=-1:=by
 have hr:∀ i:Nat,i<3→(q.rep i).role=1:=fun i hi=>(h.reps i hi).1.role (by omega)
 unfold QuoD.leader;rw [reps3 h.len]
 have s0:∀ (i:Nat) (b:Int),(q.rep i).role=1→(if (q.rep i).role=3∧(b<0∨(q.rep b).j.term<(q.rep i).j.term) then (i:Int) else b)=b:=fun i b hi=>by
  rw [if_neg]
  rintro ⟨h9,_⟩
  omega
 simp only [QuoD.leaderGo,Nat.zero_add,Nat.reduceAdd]
 rw [s0 0 _ (hr 0 (by omega)),s0 1 _ (hr 1 (by omega)),s0 2 _ (hr 2 (by omega))]
theorem zd6 {L:Nat} {t:Int} (h:Led K L t E q) (hdn:q.done.length=E.length) (hup:QuoD.upB up L=true) (hg:∃ g:Nat,g<3∧g≠L∧QuoD.upB up g=true) {e:EnD} (hs:shapeB e=true) (hlen:E.length<4096) {q':QuoD} (hq':q'=QuoD.flush 100000 up 0 (q.propose L e).1) :
 FInv (K+16) up L t (E++[(t,e)]) true [] q'∧(q'.rep L).commit=E.length+1∧q'.done=(E++[(t,e)]).map (·.2)∧∀ g:Nat,g<3→g≠L→QuoD.upB up g=true→(q'.rep g).j.log=E++[(t,e)]:=by
 obtain ⟨_,ks,h1,_⟩:=zdq h hdn hup hs hlen
 have h2:=(zf5 h1).1
 rw [←hq'] at h2
 have hlast:tAt (E++[(t,e)]) ((E++[(t,e)]).length-1)=t:=zko E (t,e)
 have hmt:∀ g:Nat,g<3→g≠L→QuoD.upB up g=true→(q'.rep L).mt g=(E++[(t,e)]).length:=fun g h3 h4 h5=>by
  rcases h2.prog rfl g h3 h4 h5 with h6|⟨k,hk,_⟩
  ·exact h6
  ·simp at hk
 obtain ⟨g,g1,g2,g3⟩:=hg
 have hc:=h2.cmt rfl hlast ⟨g,g1,g2,hmt g g1 g2 g3⟩
 have hcL:=(h2.reps L h2.L3).c0
 have hdd:=h2.done
 refine ⟨h2,by rw [hc];simp,?_,fun g h3 h4 h5=>?_⟩
 ·rw [hdd.1,show q'.done.length=(E++[(t,e)]).length by omega,List.take_length]
 ·have h6:=((h2.ldr.ldr rfl).2 g h3 h4).2.2.2
  rw [hmt g h3 h4 h5] at h6
  have h7:=(h2.reps g h3).pre
  exact h7.eq_of_length_le (by omega)
end
structure P3 (E:LogD) (p:PlaneD):Prop where
 n:p.n=3
 up:0≤p.up∧p.up<8
 cnt:p.s.count=E.length
 maj:∃ f g:Nat,f<3∧g<3∧f≠g∧(p.q.rep f).j.log=E∧(p.q.rep g).j.log=E
 st:(∃ L:Nat,QuoD.upB p.up L=true∧Led (60 * E.length) L (topT E) E p.q∧p.q.done=E.map (·.2))∨NoLed (60 * E.length) E p.q
 top:0≤topT E∧topT E≤E.length
theorem zer {p:PlaneD} (hn:p.n=3) {i:Nat} (hi:i<3):p.isUp i=QuoD.upB p.up i:=by
 have h1:decide ((0:Int)≤(i:Int))=true:=decide_eq_true (by omega)
 have h2:decide ((i:Int)<((3:Nat):Int))=true:=decide_eq_true (by omega)
 unfold PlaneD.isUp;rw [hn,h1,h2];rfl
theorem zmv {p:PlaneD} (hn:p.n=3) (hr:p.ready=true):(∀ b:Nat,b<3→∃ g:Nat,g<3∧g≠b∧QuoD.upB p.up g=true)∧∀ f g:Nat,f<3→g<3→f≠g→QuoD.upB p.up f=true∨QuoD.upB p.up g=true:=by
 have hu:p.ups=((List.range 3).filter fun (i:Nat)=>QuoD.upB p.up i).length:=by
  unfold PlaneD.ups;rw [hn]
  congr 1
  refine List.filter_congr fun i hi=>zer hn (by simpa using hi)
 unfold PlaneD.ready at hr;rw [hu,hn] at hr
 have hr':=of_decide_eq_true hr
 cases h0:QuoD.upB p.up ((0:Nat):Int)<;>cases h1:QuoD.upB p.up ((1:Nat):Int)<;>cases h2:QuoD.upB p.up ((2:Nat):Int)<;>simp only [show List.range 3=[0,1,2] from rfl,List.filter_cons,h0,h1,h2,List.filter_nil,if_true,List.length_cons,List.length_nil,Bool.false_eq_true,if_false] at hr'
 all_goals try omega
 all_goals
  refine ⟨fun b hb=>?_,fun f g hf hg hne=>?_⟩
  ·have:b=0∨b=1∨b=2:=by omega
   rcases this with rfl|rfl|rfl
   all_goals first|exact ⟨0,by omega,by omega,h0⟩|exact ⟨1,by omega,by omega,h1⟩|exact ⟨2,by omega,by omega,h2⟩
  ·have hf':f=0∨f=1∨f=2:=by omega
   have hg':g=0∨g=1∨g=2:=by omega
   rcases hf' with rfl|rfl|rfl<;>rcases hg' with rfl|rfl|rfl<;>first|exact absurd rfl hne|exact .inl h0|exact .inl h1|exact .inl h2|exact .inr h0|exact .inr h1|exact .inr h2
def lexLe (a b:Int × Int):Prop:=a.1<b.1∨a.1=b.1∧a.2≤b.2
theorem zm8 {a b c:Int × Int} (h:lexLe a b) (h':lexLe b c):lexLe a c:=by
 unfold lexLe at *;omega
def keyR (r:RepD):Int × Int:=(r.lastTerm,r.len)
theorem zcx (p:PlaneD):∀ (l:List Nat) (b t n:Int),∃ k,(p.bestGo l b t n=b∧k=(t,n)∨∃ i∈l,p.bestGo l b t n=(i:Int)∧p.isUp i=true∧k=keyR (p.q.rep i))∧lexLe (t,n) k∧∀ j∈l,p.isUp (j:Nat)=true→lexLe (keyR (p.q.rep j)) k
 | [],b,t,n=>⟨(t,n),.inl ⟨rfl,rfl⟩,by simp [lexLe],by simp⟩
 | i :: l, b, t, n => by
   rw [PlaneD.bestGo]
   by_cases hu:p.isUp i=false
   ·rw [if_pos hu]
    obtain ⟨k,h1,h2,h3⟩:=zcx p l b t n
    refine ⟨k,h1.imp id fun ⟨j,hj,h⟩=>⟨j,by simp [hj],h⟩,h2,fun j hj hju=>?_⟩
    rcases List.mem_cons.1 hj with rfl|hj
    ·rw [hu] at hju;cases hju
    ·exact h3 j hj hju
   ·rw [if_neg hu]
    have hu':p.isUp i=true:=by simpa using hu
    by_cases hc:t<(p.q.rep i).lastTerm∨(p.q.rep i).lastTerm=t∧n<(p.q.rep i).len
    ·simp only [if_pos hc]
     obtain ⟨k,h1,h2,h3⟩:=zcx p l i (p.q.rep i).lastTerm (p.q.rep i).len
     refine ⟨k,.inr ?_,zm8 ?_ h2,fun j hj hju=>?_⟩
     ·rcases h1 with ⟨h4,h5⟩|⟨j,hj,h⟩
      ·exact ⟨i,by simp,h4,hu',h5⟩
      ·exact ⟨j,by simp [hj],h⟩
     ·rcases hc with h|⟨h,h'⟩
      ·exact .inl h
      ·exact .inr ⟨h.symm,Int.le_of_lt h'⟩
     ·rcases List.mem_cons.1 hj with rfl|hj
      ·exact h2
      ·exact h3 j hj hju
    ·simp only [if_neg hc]
     obtain ⟨k,h1,h2,h3⟩:=zcx p l b t n
     refine ⟨k,h1.imp id fun ⟨j,hj,h⟩=>⟨j,by simp [hj],h⟩,h2,fun j hj hju=>?_⟩
     rcases List.mem_cons.1 hj with rfl|hj
     ·refine zm8 ?_ h2
      simp only [lexLe,keyR];omega
     ·exact h3 j hj hju
theorem best3 {p:PlaneD} {K:Nat} {E:LogD} (hn:p.n=3) (h:NoLed K E p.q) {g:Nat} (hg:g<3) (hug:QuoD.upB p.up g=true) (hlg:(p.q.rep g).j.log=E):∃ b:Nat,b<3∧p.best=b∧QuoD.upB p.up b=true∧(p.q.rep b).j.log=E:=by
 obtain ⟨k,h1,h2,h3⟩:=zcx p (List.range p.n) (-1) (-1) (-1);rw [hn] at h1 h3
 have hkg:=h3 g (by simp [hg]) (by rw [zer hn hg];exact hug)
 have hT:=h.top
 rcases h1 with ⟨h4,h5⟩|⟨b,hb,h4,h5,h6⟩
 ·rw [h5] at hkg
  simp only [lexLe,keyR,RepD.lastTerm,RepD.len,zat,hlg] at hkg;unfold topT at hT;omega
 ·have hb3:b<3:=by simpa using hb
  refine ⟨b,hb3,by unfold PlaneD.best;rw [hn];exact h4,by rw [←zer hn hb3];exact h5,?_⟩
  have hpre:=(h.reps b hb3).1.pre
  have hll:=zk7 h.lg hT.1 hpre
  rw [h6] at hkg;simp only [lexLe,keyR,RepD.lastTerm,RepD.len,zat,hlg] at hkg
  exact hpre.eq_of_length_le (by omega)
theorem zmb (E:LogD) (t:Int) (e:EnD):topT (E++[(t,e)])=t:=zko E (t,e)
theorem FInv.moreK {K K':Nat} {up:Int} {L:Nat} {t:Int} {E:LogD} {lead:Bool} {ks:List MK} {q:QuoD} (h:FInv K up L t E lead ks q) (hk:K≤K'):FInv K' up L t E lead ks q :=
 ⟨h.len,h.L3,h.upL,h.t1,h.lg,h.reps,h.net,h.kinv,h.ldr,h.done,h.cmt,h.prog,h.start,fun i hi=>by have:=h.recs i hi;omega,h.small⟩
theorem qat {p:PlaneD} {E:LogD} {K:Nat} {L:Nat} {t:Int} (hn:p.n=3) (hup:0≤p.up∧p.up<8) (h:Led K L t E p.q) (hdn:p.q.done=E.map (·.2)) (hu:QuoD.upB p.up L=true) (hg:∃ g:Nat,g<3∧g≠L∧QuoD.upB p.up g=true) {e:EnD} (hs:shapeB e=true) (hlen:E.length<4096) (hK:K+16≤60 * (E.length+1)) (ht:t≤E.length+1) {s':StD} (hs':s'.count=E.length+1) :
 P3 (E++[(t,e)]) { p with q:=QuoD.flush 100000 p.up 0 (p.q.propose L e).1,s:=s' }∧((QuoD.flush 100000 p.up 0 (p.q.propose L e).1).rep L).commit=E.length+1:=by
 have hdl:p.q.done.length=E.length:=by rw [hdn];simp
 obtain ⟨h1,h2,h3,h4⟩:=zd6 h hdl hu hg hs hlen rfl;obtain ⟨g,g1,g2,g3⟩:=hg
 have ht1:=h.t1
 have hel:(E++[(t,e)]).length=E.length+1:=by simp
 refine ⟨⟨hn,hup,by rw [hel];simpa using hs',⟨L,g,h.L3,g1,Ne.symm g2,h1.ldr.log,h4 g g1 g2 g3⟩,.inl ⟨L,hu,?_,h3⟩,?_⟩,h2⟩
 ·rw [zmb,hel]
  exact (h1.moreK hK).led
 ·rw [zmb,hel]
  omega
theorem has3 {q:QuoD} (h:q.reps.length=3) {i:Nat} (hi:i<3):q.has i=true:=by
 have h1:decide ((0:Int)≤(i:Int))=true:=decide_eq_true (by omega)
 have h2:decide ((i:Int)<((3:Nat):Int))=true:=decide_eq_true (by omega)
 unfold QuoD.has;rw [h,h1,h2];rfl
theorem commit3 {p:PlaneD} {E:LogD} (h:P3 E p) (hr:p.ready=true) {e:EnD} (hs:shapeB e=true) (hlen:E.length<4000) :
 ∃ (q':QuoD) (t:Int),PlaneD.commit 4 p e=({ p with q:=q' },true)∧∀ s':StD,s'.count=E.length+1→P3 (E++[(t,e)]) { p with q:=q',s:=s' }:=by
 obtain ⟨hr1,hr2⟩:=zmv h.n hr
 have hT:=h.top
 have hcnt:=h.cnt
 rcases h.st with ⟨L,hu,hL,hdn⟩|hno
 ·have hld:=zgs hL
  have hdl:p.q.done.length=E.length:=by rw [hdn];simp
  obtain ⟨hp0,_⟩:=zdq (up:=p.up) hL hdl hu hs (by omega)
  have hkey:=fun (s':StD) (hs':s'.count=(E.length:Int)+1)=>qat (p:=p) h.n h.up hL hdn hu (hr1 L hL.L3) hs (by omega) (by omega) (by omega) hs'
  refine ⟨_,topT E,?_,fun s' hs'=>(hkey s' hs').1⟩
  have hhas:p.q.has L=true:=has3 hL.len hL.L3
  have hc:=(zd6 hL hdl hu (hr1 L hL.L3) hs (by omega) rfl).2.1
  rw [PlaneD.commit];simp only [hld]
  rw [if_pos ⟨by rw [zer h.n hL.L3];exact hu,hp0⟩]
  simp only [PlaneD.flush,hhas,hc,hcnt];refine Prod.ext rfl ?_;simp
  try omega
 ·obtain ⟨f,g,f1,g1,fg,fE,gE⟩:=h.maj
  obtain ⟨i,i1,i2,i3⟩:∃ i:Nat,i<3∧QuoD.upB p.up i=true∧(p.q.rep i).j.log=E:=by
   rcases hr2 f g f1 g1 fg with h1|h1
   ·exact ⟨f,f1,h1,fE⟩
   ·exact ⟨g,g1,h1,gE⟩
  obtain ⟨b,b1,b2,b3,b4⟩:=best3 h.n hno i1 i2 i3;obtain ⟨hC,hCd⟩:=zjf hno b1 b4 b3 (hr1 b b1);obtain ⟨hF,hdg⟩:=zf5 hC
  have hdl0:p.q.done.length=E.length:=by rw [hno.done];simp
  obtain ⟨q1,hq1⟩:∃ q1,q1=QuoD.flush 100000 p.up 0 (p.q.campaign b):=⟨_,rfl⟩;rw [←hq1] at hF hdg
  have hL:=hF.led
  have hd1:=hF.done
  have hdlen:E.length≤q1.done.length:=by rw [hCd] at hdg;omega
  have hdl:q1.done.length=E.length:=by omega
  have hdn:q1.done=E.map (·.2):=by rw [hd1.1,hdl,List.take_length]
  have hld:=zgs hF
  obtain ⟨hp0,_⟩:=zdq (up:=p.up) hL hdl b3 hs (by omega)
  have hkey:=fun (s':StD) (hs':s'.count=(E.length:Int)+1)=>qat (p:={ p with q:=q1 }) h.n h.up hL hdn b3 (hr1 b b1) hs (by omega) (by omega) (by omega) hs'
  refine ⟨_,topT E+1,?_,fun s' hs'=>(hkey s' hs').1⟩
  have hpd:=zd6 hL hdl b3 (hr1 b b1) hs (by omega) rfl
  have hhas:q1.has b=true:=has3 hL.len hL.L3
  have hc:=hpd.2.1
  rw [PlaneD.commit];simp only [zm9 hno]
  rw [if_neg (by unfold PlaneD.isUp;simp)]
  simp only [PlaneD.flush,b2,←hq1];rw [PlaneD.commit];simp only [hld]
  have hup1:PlaneD.isUp { p with q:=q1 } b=true:=by
   have:PlaneD.isUp { p with q:=q1 } b=p.isUp b:=rfl
   rw [this,zer h.n b1];exact b3
  rw [if_pos ⟨hup1,hp0⟩];simp only [PlaneD.flush,hhas,hc,hcnt];refine Prod.ext rfl ?_;simp
  try omega
structure P1 (E:LogD) (p:PlaneD):Prop where
 n:p.n=1
 up:p.up=0∨p.up=1
 cnt:p.s.count=E.length
 len:p.q.reps.length=1
 net:p.q.net=[]
 id:(p.q.rep 0).id=0
 rn:(p.q.rep 0).n=1
 nl:(p.q.rep 0).next.length=5
 ml:(p.q.rep 0).mtch.length=5
 disk:(p.q.rep 0).Disk
 log:(p.q.rep 0).j.log=E
 lg:LogOk (p.q.rep 0).j.term E
 tm:0≤(p.q.rep 0).j.term∧(p.q.rep 0).j.term≤E.length
 vt:-1≤(p.q.rep 0).j.vote∧(p.q.rep 0).j.vote<3
 c0:0≤(p.q.rep 0).commit∧(p.q.rep 0).commit≤E.length
 role:(p.q.rep 0).role=1∨(p.q.rep 0).role=3∧p.up=1∧1≤(p.q.rep 0).j.term
 recs:(p.q.rep 0).recs.length≤E.length+60 * E.length
 done:p.q.done=E.map (·.2)
theorem zib {q:QuoD} (h:q.reps.length=1):q.reps=[q.rep 0]:=by
 obtain ⟨rs,net,dn⟩:=q
 match rs,h with
 | [a],_=>rfl
theorem qcy {r:RepD} {E:LogD} {t:Int} {e:EnD} (hn:r.n=1) (hid:r.id=0) (hl:r.j.log=E++[(t,e)]) (ht:r.j.term=t) (hc:r.commit≤E.length):r.advance={ r with commit:=E.length+1 }:=by
 have hh:∀ m:Int,r.holders m=1:=fun m=>by
  unfold RepD.holders;rw [hn]
  have:(List.range (1:Int).toNat).filter (fun (i:Nat)=>decide (((i:Nat):Int)≠r.id) && decide (m≤r.mt i))=[]:=by
   rw [hid];simp
  rw [this];rfl
 unfold RepD.advance
 rw [hl,List.length_append,List.length_singleton,RepD.advGo,if_neg (by omega),if_neg,hh,hn,if_pos (by omega)]
 rw [zat,hl,ht,Decidable.not_not]
 have:=zko E (t,e)
 rw [List.length_append,List.length_singleton] at this
 rw [show ((E.length:Nat):Int)=((E.length+1:Nat):Int)-1 by omega]
 exact this
theorem zj0 {r:RepD} (hn:r.n=1) (hid:r.id=0) (g:Int→MsgD):r.others g=[]:=by
 unfold RepD.others;rw [hn,hid];simp
theorem zif {q:QuoD} {E:LogD} (hlen:q.reps.length=1) (hnet:q.net=[]) (hid:(q.rep 0).id=0) (hn:(q.rep 0).n=1) (hlog:(q.rep 0).j.log=E) (hlg:LogOk (q.rep 0).j.term E) (ht:1≤(q.rep 0).j.term∧(q.rep 0).j.term≤1000000) (hr:(q.rep 0).role=3) (hc:(q.rep 0).commit≤E.length) (hdn:q.done=E.map (·.2)) {e:EnD} (hs:shapeB e=true) (hl:E.length<4096) :
 q.propose 0 e=(⟨[{ q.rep 0 with j:={ (q.rep 0).j with log:=E++[((q.rep 0).j.term,e)] },recs:=(q.rep 0).recs++[.ent (q.rep 0).j.term e],commit:=E.length+1 }],[],(E++[((q.rep 0).j.term,e)]).map (·.2)⟩,0):=by
 have hput:=zid (r:=q.rep 0) (a:=(q.rep 0).j.term) (e:=e) (by omega) hs (by omega) (by rw [hlog];exact (zc2 hlg (by omega) _).2) (by rw [hlog];exact hl)
 have hadd:=zqx (j:=(q.rep 0).j) (a:=(q.rep 0).j.term) (e:=e) (by omega) hs (by omega) (by rw [hlog];exact (zc2 hlg (by omega) _).2) (by rw [hlog];exact hl)
 rw [hlog] at hput
 have hadv:=qcy (r:=(q.rep 0).put (.ent (q.rep 0).j.term e)) (E:=E) (t:=(q.rep 0).j.term) (e:=e) (by rw [hput];exact hn) (by rw [hput];exact hid) (by rw [hput]) (by rw [hput]) (by rw [hput];exact hc)
 have hhas:q.has 0=true:=by simp [QuoD.has,hlen]
 unfold QuoD.propose
 rw [if_neg (by rw [hhas];simp)]
 have hpr:(q.rep 0).propose e=({ q.rep 0 with j:={ (q.rep 0).j with log:=E++[((q.rep 0).j.term,e)] },recs:=(q.rep 0).recs++[.ent (q.rep 0).j.term e],commit:=E.length+1 },[],0):=by
  unfold RepD.propose
  rw [if_neg (by rw [hr];decide),hadd]
  simp only [ne_eq,not_true_eq_false,if_false]
  rw [hadv,zj0 (by rw [hput];exact hn) (by rw [hput];exact hid),hput]
 rw [hpr];simp only [ne_eq,not_true_eq_false,if_false];refine Prod.ext ?_ rfl;obtain ⟨rs,net,dn⟩:=q
 match rs,hlen with
 | [r], _ =>
   simp only at hnet hdn;subst hnet hdn
   have hnt:∀ r2:RepD,r2.commit=E.length+1→r2.j.log=E++[((QuoD.rep ⟨[r],[],E.map (·.2)⟩ 0).j.term,e)]→QuoD.note1 (E.map (·.2)) r2=(E++[((QuoD.rep ⟨[r],[],E.map (·.2)⟩ 0).j.term,e)]).map (·.2):=fun r2 h1 h2=>by
    unfold QuoD.note1
    rw [if_neg (by rw [h1,List.length_map];omega),h1,h2]
    rw [List.take_of_length_le (by rw [List.length_append,List.length_singleton];omega)]
   simp only [QuoD.send,QuoD.set,QuoD.note,List.foldl_nil,List.foldl_cons,show (0:Int).toNat=0 from rfl,List.set_cons_zero]
   rw [hnt _ rfl rfl]
theorem zi4 {q:QuoD} (h:q.net=[]) (f n:Nat) (up:Int):QuoD.flush (f+1) up n q=q:=by rw [QuoD.flush,h]
theorem best1 {p:PlaneD} (hn:p.n=1) (hu:p.isUp 0=true) {E:LogD} (hlog:(p.q.rep 0).j.log=E) {t:Int} (hlg:LogOk t E) (ht:0≤t):p.best=0:=by
 obtain ⟨k,h1,h2,h3⟩:=zcx p (List.range p.n) (-1) (-1) (-1);rw [hn] at h1 h3
 have hkg:=h3 0 (by simp) hu
 rcases h1 with ⟨h4,h5⟩|⟨b,hb,h4,_⟩
 ·rw [h5] at hkg
  have:=(zc2 hlg ht (E.length-1)).1
  simp only [lexLe,keyR,RepD.lastTerm,RepD.len,zat] at hkg;simp only [Int.ofNat_zero,hlog] at hkg;omega
 ·have:b=0:=by simpa using hb
  subst this;unfold PlaneD.best;rw [hn];exact h4
theorem commit1 {p:PlaneD} {E:LogD} (h:P1 E p) (hr:p.ready=true) {e:EnD} (hs:shapeB e=true) (hlen:E.length<4000) :
 ∃ (q':QuoD) (t:Int),PlaneD.commit 4 p e=({ p with q:=q' },true)∧∀ s':StD,s'.count=E.length+1→P1 (E++[(t,e)]) { p with q:=q',s:=s' }:=by
 have hup:p.up=1:=by
  rcases h.up with h1|h1
  ·exfalso
   unfold PlaneD.ready PlaneD.ups at hr;rw [h.n] at hr;simp [PlaneD.isUp,QuoD.upB,h1] at hr
  ·exact h1
 have hu:p.isUp 0=true:=by simp [PlaneD.isUp,QuoD.upB,hup,h.n]
 have hld:p.q.leader=if (p.q.rep 0).role=3 then 0 else -1:=by
  unfold QuoD.leader;rw [zib h.len];simp [QuoD.leaderGo]
 have hT:=h.tm
 have hcnt:=h.cnt
 have hel:∀ t:Int,(E++[(t,e)]).length=E.length+1:=fun t=>by simp
 have fin:∀ (q:QuoD),q.reps.length=1→q.net=[]→(q.rep 0).id=0→(q.rep 0).n=1→(q.rep 0).next.length=5→(q.rep 0).mtch.length=5→(q.rep 0).Disk→(q.rep 0).j.log=E→LogOk (q.rep 0).j.term E→1≤(q.rep 0).j.term∧(q.rep 0).j.term≤E.length+1→-1≤(q.rep 0).j.vote∧(q.rep 0).j.vote<3→0≤(q.rep 0).commit∧(q.rep 0).commit≤E.length→(q.rep 0).role=3→(q.rep 0).recs.length≤E.length+60 * E.length+1→q.done=E.map (·.2) →
  (q.propose 0 e).2=0∧(q.propose 0 e).1.net=[]∧(q.propose 0 e).1.has 0=true∧((q.propose 0 e).1.rep 0).commit=E.length+1∧∀ s':StD,s'.count=E.length+1→P1 (E++[((q.rep 0).j.term,e)]) { p with q:=(q.propose 0 e).1,s:=s' }:=by
  intro q a1 a2 a3 a4 a5 a6 a7 a8 a9 b1 b2 b3 b4 b5 b6
  have hp:=zif a1 a2 a3 a4 a8 a9 ⟨b1.1,by omega⟩ b4 b3.2 b6 hs (by omega)
  have hdisk:=RepD.put_disk a7 (.ent (q.rep 0).j.term e)
  have hput:=zid (r:=q.rep 0) (a:=(q.rep 0).j.term) (e:=e) (by omega) hs (by omega) (by rw [a8];exact (zc2 a9 (by omega) _).2) (by rw [a8];omega)
  rw [hput,a8] at hdisk;rw [hp]
  refine ⟨rfl,rfl,rfl,rfl,fun s' hs'=>⟨h.n,.inr hup,by rw [hel];simpa using hs',rfl,rfl,a3,a4,a5,a6,hdisk,rfl,?_,?_,b2,?_,.inr ⟨b4,hup,b1.1⟩,?_,rfl⟩⟩
  ·refine ⟨fun x hx=>?_,?_,by rw [hel];omega⟩
   ·rcases List.mem_append.1 hx with hx|hx
    ·exact a9.low x hx
    ·obtain rfl:x=((q.rep 0).j.term,e):=by simpa using hx
     exact ⟨b1.1,Int.le_refl _,hs⟩
   ·rw [List.pairwise_append]
    refine ⟨a9.sorted,by simp,fun x hx y hy=>?_⟩
    obtain rfl:y=((q.rep 0).j.term,e):=by simpa using hy
    exact (a9.low x hx).2.1
  ·rw [hel]
   show 0≤(q.rep 0).j.term∧(q.rep 0).j.term≤_
   omega
  ·rw [hel]
   show 0≤(E.length:Int)+1∧(E.length:Int)+1≤_
   omega
  ·rw [hel]
   show ((q.rep 0).recs++[_]).length≤_
   simp;omega
 rcases h.role with hro|⟨hro,_,ht1⟩
 ·
  have hrem:=zbi (r:=p.q.rep 0) (t:=(p.q.rep 0).j.term+1) (v:=0) (by omega) (by omega) (by omega) (by omega)
  have hdisk:=RepD.put_disk h.disk (.term ((p.q.rep 0).j.term+1) 0)
  have hcam:∃ r1:RepD,(p.q.rep 0).campaign=(r1,[])∧r1={ p.q.rep 0 with role:=3,votes:=1,j:={ (p.q.rep 0).j with term:=(p.q.rep 0).j.term+1,vote:=0 },recs:=(p.q.rep 0).recs++[.term ((p.q.rep 0).j.term+1) 0],next:=RepD.setAll (p.q.rep 0).next 1 E.length,mtch:=RepD.setAll (p.q.rep 0).mtch 1 0 }:=by
   refine ⟨_,?_,rfl⟩;unfold RepD.campaign
   rw [if_neg (by omega),h.id,hrem,if_pos h.rn]
   simp only [RepD.lead,RepD.len,h.rn,h.log];rfl
  obtain ⟨r1,c1,c2⟩:=hcam
  have hqq:p.q.campaign 0=⟨[r1],[],p.q.done⟩:=by
   have hhas:p.q.has 0=true:=by simp [QuoD.has,h.len]
   unfold QuoD.campaign
   rw [if_neg (by rw [hhas];simp),c1]
   have hc1:r1.commit≤p.q.done.length:=by
    rw [c2,h.done]
    have:=h.c0
    simpa using this.2
   have h1:=zib h.len
   have hn:=h.net
   obtain ⟨q,hq⟩:∃ q,q=p.q:=⟨_,rfl⟩;rw [←hq] at h1 hn hc1 ⊢;obtain ⟨rs,net,dn⟩:=q;simp only at h1 hn hc1;subst hn;rw [h1];simp [QuoD.send,QuoD.set,QuoD.note,QuoD.note1,hc1]
  obtain ⟨q1,hq1⟩:∃ q1,q1=p.q.campaign 0:=⟨_,rfl⟩
  have hq1':=hq1
  rw [hqq] at hq1'
  have hr1:q1.rep 0=r1:=by rw [hq1'];rfl
  have hd2:r1.Disk:=by
   change ((p.q.rep 0).remember ((p.q.rep 0).j.term+1) 0).Disk at hdisk;rw [hrem] at hdisk;rw [c2];exact hdisk
  obtain ⟨f1,f2,f3,f4,f5⟩:=fin q1 (by rw [hq1'];rfl) (by rw [hq1']) (by rw [hr1,c2];exact h.id) (by rw [hr1,c2];exact h.rn) (by rw [hr1,c2];simp only [zdc];exact h.nl) (by rw [hr1,c2];simp only [zdc];exact h.ml) (by rw [hr1];exact hd2) (by rw [hr1,c2];exact h.log) (by rw [hr1,c2];exact h.lg.more (by show (p.q.rep 0).j.term≤(p.q.rep 0).j.term+1;omega)) (by rw [hr1,c2];simp;omega) (by rw [hr1,c2];simp) (by rw [hr1,c2];exact h.c0) (by rw [hr1,c2]) (by rw [hr1,c2];have:=h.recs;simp;omega) (by rw [hq1'];exact h.done)
  refine ⟨_,_,?_,f5⟩
  have hro':¬ (p.q.rep 0).role=3:=by rw [hro];decide
  have hl1:q1.leader=0:=by
   unfold QuoD.leader;rw [hq1'];simp [QuoD.leaderGo,c2]
  have hnet1:q1.net=[]:=by rw [hq1']
  have hhas1:q1.has 0=true:=by rw [hq1'];rfl
  rw [PlaneD.commit];simp only [hld,if_neg hro']
  rw [if_neg (by simp [PlaneD.isUp])]
  simp only [PlaneD.flush,best1 h.n hu h.log h.lg hT.1,←hq1];rw [zi4 hnet1,PlaneD.commit];simp only [hl1];rw [if_pos ⟨hu,f1⟩];simp only [PlaneD.flush,zi4 f2,hhas1,f4,hcnt];refine Prod.ext rfl ?_;simp
  try omega
 ·obtain ⟨f1,f2,f3,f4,f5⟩:=fin p.q h.len h.net h.id h.rn h.nl h.ml h.disk h.log h.lg ⟨ht1,by omega⟩ h.vt h.c0 hro (by have:=h.recs;omega) h.done
  refine ⟨_,_,?_,f5⟩
  have hhas0:p.q.has 0=true:=by simp [QuoD.has,h.len]
  rw [PlaneD.commit];simp only [hld,if_pos hro];rw [if_pos ⟨hu,f1⟩];simp only [PlaneD.flush,zi4 f2,hhas0,f4,hcnt];refine Prod.ext rfl ?_;simp
  try omega
theorem zxo:∀ u:Fin 8,∀ i j:Fin 3,u.val.testBit i.val=true→2 ^ i.val≤u.val∧(u.val-2 ^ i.val).testBit j.val=(u.val.testBit j.val && decide (j≠i)):=by decide
theorem zxn:∀ u:Fin 8,∀ i j:Fin 3,u.val.testBit i.val=false→u.val+2 ^ i.val<8∧(u.val+2 ^ i.val).testBit j.val=(u.val.testBit j.val || decide (j=i)):=by decide
theorem zpn {up:Int} (h:0≤up∧up<8) {i:Nat} (hi:i<3) (hu:QuoD.upB up i=true):(0≤up-2 ^ i∧up-2 ^ i<8)∧∀ j:Nat,j<3→QuoD.upB (up-2 ^ i) j=(QuoD.upB up j && decide (j≠i)):=by
 obtain ⟨u,rfl⟩:∃ u:Nat,up=u:=⟨up.toNat,by omega⟩
 have hu8:u<8:=by omega
 have hb:u.testBit i=true:=by simpa [QuoD.upB] using hu
 have key:=fun (j:Nat) (hj:j<3)=>zxo ⟨u,hu8⟩ ⟨i,hi⟩ ⟨j,hj⟩ hb
 have hle:2 ^ i≤u:=(key i hi).1
 have e:(u:Int)-2 ^ i=((u-2 ^ i:Nat):Int):=by
  have:((2:Int) ^ i)=((2 ^ i:Nat):Int):=by simp
  rw [this];omega
 rw [e]
 refine ⟨⟨Int.natCast_nonneg _,Int.ofNat_lt.2 (Nat.lt_of_le_of_lt (Nat.sub_le _ _) hu8)⟩,fun j hj=>?_⟩
 have h2:=(key j hj).2
 simp only [QuoD.upB,Int.toNat_natCast];rw [h2];simp [Fin.ext_iff]
theorem zpm {up:Int} (h:0≤up∧up<8) {i:Nat} (hi:i<3) (hu:QuoD.upB up i=false):(0≤up+2 ^ i∧up+2 ^ i<8)∧∀ j:Nat,j<3→QuoD.upB (up+2 ^ i) j=(QuoD.upB up j || decide (j=i)):=by
 obtain ⟨u,rfl⟩:∃ u:Nat,up=u:=⟨up.toNat,by omega⟩
 have hu8:u<8:=by omega
 have hb:u.testBit i=false:=by simpa [QuoD.upB] using hu
 have key:=fun (j:Nat) (hj:j<3)=>zxn ⟨u,hu8⟩ ⟨i,hi⟩ ⟨j,hj⟩ hb
 have hle:u+2 ^ i<8:=(key i hi).1
 have e:(u:Int)+2 ^ i=((u+2 ^ i:Nat):Int):=by simp
 rw [e]
 refine ⟨⟨Int.natCast_nonneg _,Int.ofNat_lt.2 hle⟩,fun j hj=>?_⟩
 have h2:=(key j hj).2
 simp only [QuoD.upB,Int.toNat_natCast];rw [h2];simp [Fin.ext_iff]
theorem qae {q:QuoD} (hlen:q.reps.length=3) {i:Nat} (hi:i<3) (hc:∀ j:Nat,j<3→(q.rep j).commit≤q.done.length):q.crash i=⟨q.reps.set i (q.rep i).crash,q.net,q.done⟩:=by
 unfold QuoD.crash
 rw [if_neg (by rw [has3 hlen hi];simp)]
 have e9:QuoD.rep ⟨q.reps.set i (q.rep i).crash,q.net,q.done⟩ i=(q.rep i).crash:=by rw [zde hlen hi,if_pos rfl]
 have hs:q.set i (q.rep i).crash=⟨q.reps.set i (q.rep i).crash,q.net,q.done⟩:=by unfold QuoD.set;rw [Int.toNat_natCast]
 rw [hs,zhh (j:=i) (by simpa using hlen) hi,e9,zcq]
 ·show (0:Int)≤q.done.length
  omega
 ·intro j hj hij
  rw [zde hlen hi,if_neg (Ne.symm hij)];exact hc j hj
 ·rw [e9]
  show (0:Int)≤_
  omega
theorem zjb {L:Nat} {t:Int} {F:LogD} {d i:Nat} {r:RepD} (h:RInv L t F d i r):RInv L t F d i r.crash :=
 ⟨h.id,h.n,h.nl,h.ml,h.disk,h.pre,h.t0,h.tt,h.last,h.v0,h.vt,⟨Int.le_refl _,by show (0:Int)≤d;omega,by show (0:Int)≤_;exact Int.natCast_nonneg _⟩,fun _=>rfl⟩
theorem qb4 {E:LogD} {p:PlaneD} (h:P3 E p) {i:Nat} (hi:i<3) (hu:QuoD.upB p.up i=true):P3 E { p with up:=p.up-2 ^ i,q:=p.q.crash i }:=by
 obtain ⟨hb,hbits⟩:=zpn h.up hi hu
 have hlen:p.q.reps.length=3:=by
  rcases h.st with ⟨L,_,hL,_⟩|hn
  ·exact hL.len
  ·exact hn.len
 have hcm:∀ j:Nat,j<3→(p.q.rep j).commit≤p.q.done.length:=by
  rcases h.st with ⟨L,_,hL,_⟩|hn
  ·exact fun j hj=>(hL.reps j hj).c0.2.1
  ·exact fun j hj=>by have:=(hn.reps j hj).1.c0;rw [hn.done,List.length_map];exact this.2.1
 have hq:=qae hlen hi hcm
 have hrep:∀ j:Nat,(p.q.crash i).rep j=if i=j then (p.q.rep i).crash else p.q.rep j:=fun j=>by rw [hq];exact zde hlen hi j
 have hlog:∀ j:Nat,((p.q.crash i).rep j).j=(p.q.rep j).j:=fun j=>by
  rw [hrep]
  split
  ·rename_i e;subst e;rfl
  ·rfl
 have hrecs:∀ j:Nat,((p.q.crash i).rep j).recs=(p.q.rep j).recs:=fun j=>by
  rw [hrep]
  split
  ·rename_i e;subst e;rfl
  ·rfl
 have hdone:(p.q.crash i).done=p.q.done:=by rw [hq]
 have hnet:(p.q.crash i).net=p.q.net:=by rw [hq]
 have hrl:(p.q.crash i).reps.length=3:=by rw [hq];simpa using hlen
 refine ⟨h.n,hb,h.cnt,?_,?_,h.top⟩
 ·obtain ⟨f,g,f1,g1,fg,fE,gE⟩:=h.maj
  exact ⟨f,g,f1,g1,fg,by rw [hlog];exact fE,by rw [hlog];exact gE⟩
 ·rcases h.st with ⟨L,hLu,hL,hdn⟩|hn
  ·have hT:=h.top
   by_cases e:i=L
   ·subst e
    refine .inr ⟨hrl,by rw [hnet];exact hL.net,hL.lg,fun j hj=>?_,fun j hj=>?_,by rw [hdone];exact hdn,⟨hT.1,by have:=hL.t1;have:=hL.lg.len;omega⟩⟩
    ·have hR:=hL.reps j hj
     have hdl:p.q.done.length=E.length:=by rw [hdn,List.length_map]
     rw [hlog];refine ⟨?_,hR.tt⟩
     have hR':RInv i (topT E) E E.length j ((p.q.crash i).rep j):=by
      rw [hrep,←hdl]
      split
      ·rename_i e;subst e;exact zjb hR
      ·exact hR
     have hro:((p.q.crash i).rep j).role=1:=by
      rw [hrep]
      split
      ·rfl
      ·rename_i e;exact hR.role (fun h=>e h.symm)
     have htt:=hR'.tt
     exact ⟨hR'.id,hR'.n,hR'.nl,hR'.ml,hR'.disk,hR'.pre,hR'.t0,Int.le_trans htt (by omega),hR'.last,hR'.v0,fun e=>absurd (Int.le_trans (Int.le_of_eq e.symm) htt) (by omega),hR'.c0,fun _=>hro⟩
    ·have:=hL.recs j hj
     rw [hrecs,hlog]
     have h0:mu (lensQ p.q) []=0:=rfl
     omega
   ·refine .inl ⟨L,by rw [hbits L hL.L3,hLu];simp;omega,?_,by rw [hdone];exact hdn⟩
    have hrL:(p.q.crash i).rep L=p.q.rep L:=by rw [hrep,if_neg e]
    refine ⟨hrl,hL.L3,hL.upL,hL.t1,hL.lg,fun j hj=>?_,by rw [hnet];exact hL.net,by simp,⟨by rw [hrL];exact hL.ldr.log,by rw [hrL];exact hL.ldr.term,nofun,fun hl=>?_⟩,by rw [hdone];exact hL.done,by rw [hrL];exact hL.cmt,fun _ f _ hne hu=>?_,nofun,fun j hj=>?_,hL.small⟩
    ·rw [hrep,hdone]
     split
     ·rename_i e;subst e;exact zjb (hL.reps _ hj)
     ·exact hL.reps j hj
    ·rw [hrL]
     obtain ⟨a1,a2⟩:=hL.ldr.ldr hl
     exact ⟨a1,fun f hf hne=>by rw [hlog];exact a2 f hf hne⟩
    ·rw [zls hne] at hu;cases hu
    ·rw [hrecs,hlog]
     exact hL.recs j hj
  ·refine .inr ⟨hrl,by rw [hnet];exact hn.net,hn.lg,fun j hj=>?_,fun j hj=>?_,by rw [hdone];exact hn.done,hn.top⟩
   ·rw [hlog]
    refine ⟨?_,(hn.reps j hj).2⟩;rw [hrep]
    split
    ·rename_i e;subst e;exact zjb (hn.reps _ hj).1
    ·exact (hn.reps j hj).1
   ·rw [hrecs,hlog]
    exact hn.recs j hj
theorem qb3 {E:LogD} {p:PlaneD} (h:P3 E p) {i:Nat} (hi:i<3) (hu:QuoD.upB p.up i=false):P3 E { p with up:=p.up+2 ^ i }:=by
 obtain ⟨hb,hbits⟩:=zpm h.up hi hu;refine ⟨h.n,hb,h.cnt,h.maj,?_,h.top⟩
 rcases h.st with ⟨L,hLu,hL,hdn⟩|hn
 ·exact .inl ⟨L,by rw [hbits L hL.L3,hLu];rfl,hL,hdn⟩
 ·exact .inr hn
theorem qar {c:CfgD} (hc:c.reps.length=3) (hs:(newSt c).count=0):P3 [] (PlaneD.new c):=by
 have hr:∀ i:Nat,i<3→(PlaneD.new c).q.rep i=RepD.new i 3:=fun i hi=>by
  unfold PlaneD.new QuoD.new;rw [hc]
  have:i=0∨i=1∨i=2:=by omega
  rcases this with rfl|rfl|rfl<;>rfl
 have hl:(PlaneD.new c).q.reps.length=3:=by simp [PlaneD.new,QuoD.new,hc]
 have hinv:∀ i:Nat,RInv 3 (topT []+1) [] 0 i (RepD.new i 3):=fun i =>
  ⟨rfl,rfl,rfl,rfl,rfl,List.prefix_refl _,Int.le_refl _,show (0:Int)≤1 by decide,show (0:Int)≤0 by decide,show (-1:Int)≤-1∧(-1:Int)<3 by decide,fun _=>.inl rfl,show (0:Int)≤0∧(0:Int)≤0∧(0:Int)≤0 by decide,fun _=>rfl⟩
 refine ⟨hc,?_,by simpa [PlaneD.new] using hs,⟨0,1,by omega,by omega,by omega,by rw [hr 0 (by omega)];rfl,by rw [hr 1 (by omega)];rfl⟩,.inr ⟨hl,rfl,⟨by simp,by simp,by simp⟩,fun i hi=>?_,fun i hi=>?_,rfl,by decide⟩,by decide⟩
 ·show 0≤(2:Int) ^ c.reps.length-1∧(2:Int) ^ c.reps.length-1<8
  rw [hc]
  decide
 ·rw [hr i hi]
  exact ⟨hinv i,Int.le_refl _⟩
 ·rw [hr i hi]
  exact Nat.le_refl _
theorem qau {c:CfgD} (hc:c.reps.length=1) (hs:(newSt c).count=0):P1 [] (PlaneD.new c):=by
 have hr:(PlaneD.new c).q.rep 0=RepD.new 0 1:=by
  unfold PlaneD.new QuoD.new;rw [hc];rfl
 refine ⟨hc,.inr ?_,by simpa [PlaneD.new] using hs,by simp [PlaneD.new,QuoD.new,hc],rfl,by rw [hr];rfl,by rw [hr];rfl,by rw [hr];rfl,by rw [hr];rfl,by rw [hr];rfl,by rw [hr];rfl,⟨by simp,by simp,by simp⟩,by rw [hr];decide,by rw [hr];decide,by rw [hr];decide,by rw [hr];exact .inl rfl,by rw [hr];decide,rfl⟩
 show (2:Int) ^ c.reps.length-1=1
 rw [hc];rfl
theorem qb6 {E:LogD} {p:PlaneD} (h:P1 E p) (hu:p.up=1):P1 E { p with up:=0,q:=p.q.crash 0 }:=by
 have h1:=zib h.len
 have hc0:=h.c0
 have hq:p.q.crash 0=⟨[(p.q.rep 0).crash],p.q.net,p.q.done⟩:=by
  have hhas:p.q.has 0=true:=by simp [QuoD.has,h.len]
  unfold QuoD.crash
  rw [if_neg (by rw [hhas];simp)]
  unfold QuoD.set;rw [h1];simp [QuoD.note,QuoD.note1,RepD.crash,QuoD.rep]
 have hr:(p.q.crash 0).rep 0=(p.q.rep 0).crash:=by rw [hq];rfl
 exact ⟨h.n,.inl rfl,h.cnt,by rw [hq];rfl,by rw [hq];exact h.net,by rw [hr];exact h.id,by rw [hr];exact h.rn,by rw [hr];exact h.nl,by rw [hr];exact h.ml,by rw [hr];exact h.disk,by rw [hr];exact h.log,by rw [hr];exact h.lg,by rw [hr];exact h.tm,by rw [hr];exact h.vt,by rw [hr];exact ⟨Int.le_refl _,by show (0:Int)≤_;omega⟩,by rw [hr];exact .inl rfl,by rw [hr];exact h.recs,by rw [hq];exact h.done⟩
theorem qb5 {E:LogD} {p:PlaneD} (h:P1 E p) (hu:p.up=0):P1 E { p with up:=1 } :=
 ⟨h.n,.inr rfl,h.cnt,h.len,h.net,h.id,h.rn,h.nl,h.ml,h.disk,h.log,h.lg,h.tm,h.vt,h.c0,h.role.imp id fun ⟨h1,h2,_⟩=>(by rw [hu] at h2;cases h2),h.recs,h.done⟩
end Go.Proofs.YtpigpajgjdcagaaGreat
