/- Parts. -/
import Derived.Test.YtpigpajgjdcagaaGreatUl4
import Derived.Test.YtpigpajgjdcagaaGreatUl6
set_option linter.unusedSimpArgs false
set_option linter.unusedVariables false
set_option maxRecDepth 100000
set_option maxHeartbeats 60000000
namespace Go.Proofs.YtpigpajgjdcagaaGreat
open Go.RowKit Eng
set_option maxRecDepth 10000
structure PlI (E:LogD) (p:PlaneD):Prop where
 st:P3 E p∨P1 E p
 nc:NC p.q
 len:E.length≤40
theorem qas {E:LogD} {p:PlaneD} (h:P3 E p):p.q.reps.length=3:=by
 rcases h.st with ⟨L,_,hL,_⟩|hn
 ·exact hL.len
 ·exact hn.len
theorem PlI.reps {E:LogD} {p:PlaneD} (h:PlI E p):p.q.reps.length=p.n:=by
 rcases h.st with h3|h1
 ·rw [qas h3,h3.n]
 ·rw [h1.len,h1.n]
theorem PlI.ok {E:LogD} {p:PlaneD} (h:PlI E p):PlOk p:=by
 rcases h.st with h3|h1
 ·exact ⟨h3.up,by have:=h3.n;omega,.inl h3.n,h.reps⟩
 ·exact ⟨by have:=h1.up;omega,by have:=h1.n;omega,.inr ⟨h1.n,by have:=h1.up;omega⟩,h.reps⟩
theorem PlI.rep {E:LogD} {p:PlaneD} (h:PlI E p) {i:Nat} (hi:i<p.n):(p.q.rep i).Disk∧0≤(p.q.rep i).commit∧(p.q.rep i).commit≤((p.q.rep i).j.log.length:Int)∧(p.q.rep i).j.log.length≤E.length∧(p.q.rep i).recs.length≤4000:=by
 have hE:=h.len
 rcases h.st with h3|h1
 ·have hi3:i<3:=by have:=h3.n;omega
  rcases h3.st with ⟨L,_,hL,_⟩|hn
  ·have hR:=hL.reps i hi3
   have hr:=hL.recs i hi3
   have hl:=hR.pre.length_le
   exact ⟨hR.disk,hR.c0.1,hR.c0.2.2,hl,by omega⟩
  ·have hR:=(hn.reps i hi3).1
   have hr:=hn.recs i hi3
   have hl:=hR.pre.length_le
   exact ⟨hR.disk,hR.c0.1,hR.c0.2.2,hl,by omega⟩
 ·obtain rfl:i=0:=by have:=h1.n;omega
  have hc:=h1.c0
  have hr:=h1.recs
  have hl:((p.q.rep 0).j.log).length=E.length:=by rw [h1.log]
  have e0:(((0:Nat):Int))=0:=rfl
  rw [e0]
  exact ⟨h1.disk,hc.1,by omega,by omega,by omega⟩
theorem zxh {q:QuoD} {w:Nat} (hw:w<q.reps.length) (i:Nat):(q.crash (w:Int)).rep (i:Int)=if (i:Int)=(w:Int) then (q.rep (w:Int)).crash else q.rep (i:Int):=by
 have hhas:q.has (w:Int)=true:=by unfold QuoD.has;simp;omega
 have e1:q.crash (w:Int)=(q.set (w:Int) (q.rep (w:Int)).crash).note:=by
  unfold QuoD.crash
  rw [if_neg (by rw [hhas];simp)]
 rw [e1]
 have e2:((q.set (w:Int) (q.rep (w:Int)).crash).note).rep (i:Int)=({ q with reps:=q.reps.set w (q.rep (w:Int)).crash }:QuoD).rep (i:Int):=rfl
 rw [e2,zdo hw]
 by_cases h:i=w
 ·rw [if_pos h,if_pos (by omega)]
 ·rw [if_neg h,if_neg (by omega)]
theorem zxi {q:QuoD} {w:Nat} (hw:w<q.reps.length):(q.crash (w:Int)).reps.length=q.reps.length:=by
 have hhas:q.has (w:Int)=true:=by unfold QuoD.has;simp;omega
 unfold QuoD.crash
 rw [if_neg (by rw [hhas];simp)]
 show (q.reps.set _ _).length=_
 simp
theorem qad {q:QuoD} (h:NC q) {w:Nat} (hw:w<q.reps.length):NC (q.crash (w:Int)):=fun i hi=>by
 rw [zxi hw] at hi;rw [zxh hw]
 split
 ·exact h w hw
 ·exact h i hi
theorem PlI.fail {E:LogD} {p:PlaneD} (h:PlI E p) {i:Nat} (hi:i<p.n) (hu:p.isUp (i:Int)=true) :
 KOk (p.q.rep (i:Int))∧(∀ j:Nat,j<p.q.reps.length→∀ r',r'=(if (j:Int)=(i:Int) then (p.q.rep (i:Int)).crash else p.q.rep (j:Int))→0≤r'.commit∧r'.commit≤r'.j.log.length∧r'.j.log.length≤4096)∧PlI E { p with up:=p.up-2 ^ i,q:=p.q.crash (i:Int) }:=by
 have hE:=h.len
 have hr:=h.rep hi
 have hln:=h.reps
 have hub:QuoD.upB p.up i=true:=by rw [←zc9 (by omega)];exact hu
 refine ⟨kok hr.1 (h.nc i (by omega)) (by omega),fun j hj r' hr'=>?_,?_,qad h.nc (by omega),hE⟩
 ·by_cases hji:(j:Int)=(i:Int)
  ·rw [hr',if_pos hji]
   show (0:Int)≤0∧(0:Int)≤((p.q.rep (i:Int)).j.log.length:Nat)∧(p.q.rep (i:Int)).j.log.length≤4096
   omega
  ·rw [hr',if_neg hji]
   have:=h.rep (i:=j) (by omega)
   omega
 ·rcases h.st with h3|h1
  ·exact .inl (qb4 h3 (by have:=h3.n;omega) hub)
  ·obtain rfl:i=0:=by have:=h1.n;omega
   have hup:p.up=1:=by
    rcases h1.up with h2|h2
    ·rw [h2] at hub;simp [QuoD.upB] at hub
    ·exact h2
   have:=qb6 h1 hup
   rw [hup];exact .inr this
theorem PlI.cm {E:LogD} {p:PlaneD} (h:PlI E p) (hr:p.ready=true) {e:EnD} (hs:shapeB e=true):CmOk p e 4 p.q∧NC (PlaneD.commit 4 p e).1.q:=by
 rcases h.st with h3|h1
 ·have:=cmok3 h3 hr hs h.len
  exact ⟨this.1,this.2 h.nc⟩
 ·have:=cmok1 h1 hr hs h.len
  exact ⟨this.1,this.2 h.nc⟩
theorem ze7 {E:LogD} {p:PlaneD} (h:PlI E p) {i:Nat} (hi:i<p.n) (hu:p.isUp (i:Int)=true) (W:Nat→Prop):TriX Tryz.prog 43 [.one (.ptr 0 0 0),.one (.val (.int .i64 (i:Int)))] [PP p W] (vI 0) (fun W'=>[PP { p with up:=p.up-2 ^ i,q:=p.q.crash (i:Int) } W']) :=
 zol p h.ok (i:Int) (by omega) hu (h.fail hi hu).1 (h.fail hi hu).2.1 W
theorem PlI.heal {E:LogD} {p:PlaneD} (h:PlI E p) {i:Nat} (hi:i<p.n) (hu:p.isUp (i:Int)=false):PlI E { p with up:=p.up+2 ^ i }:=by
 have hub:QuoD.upB p.up i=false:=by rw [←zc9 (by omega)];exact hu
 refine ⟨?_,h.nc,h.len⟩
 rcases h.st with h3|h1
 ·exact .inl (qb3 h3 (by have:=h3.n;omega) hub)
 ·obtain rfl:i=0:=by have:=h1.n;omega
  have hup:p.up=0:=by
   rcases h1.up with h2|h2
   ·exact h2
   ·rw [h2] at hub;simp [QuoD.upB] at hub
  have:=qb5 h1 hup
  rw [hup];exact .inr this
theorem PlI.cnt {E:LogD} {p:PlaneD} (h:PlI E p):p.s.count=E.length:=by
 rcases h.st with h3|h1
 ·exact h3.cnt
 ·exact h1.cnt
theorem PlI.commit {E:LogD} {p:PlaneD} (h:PlI E p) (hr:p.ready=true) {e:EnD} (hs:shapeB e=true) :
 ∃ (p1:PlaneD) (t:Int),PlaneD.commit 4 p e=(p1,true)∧p1={ p with q:=p1.q }∧(E.length<40→∀ s':StD,s'.count=E.length+1→PlI (E++[(t,e)]) { p1 with s:=s' }):=by
 have hE:=h.len
 have hcm:=(h.cm hr hs).2
 rcases h.st with h3|h1
 ·obtain ⟨q',t,e1,e2⟩:=commit3 h3 hr hs (by omega)
  rw [e1] at hcm
  exact ⟨{ p with q:=q' },t,e1,rfl,fun hl s' hs'=>⟨.inl (e2 s' hs'),hcm,by simp;omega⟩⟩
 ·obtain ⟨q',t,e1,e2⟩:=commit1 h1 hr hs (by omega)
  rw [e1] at hcm
  exact ⟨{ p with q:=q' },t,e1,rfl,fun hl s' hs'=>⟨.inr (e2 s' hs'),hcm,by simp;omega⟩⟩
def ApSt (c:CfgD) (s:StD) (e:EnD):Prop:=((applyD c s e).1=0→ApOk c s e (applyD c s e).2)∧((applyD c s e).1≠0→ApNo c s e (applyD c s e).1)
theorem zji {E:LogD} {p:PlaneD} (h:PlI E p) {e:EnD} (hs:shapeB e=true) (hA:ApSt p.c p.s e) (W:Nat→Prop):TriX Tryz.prog 47 [.one (.ptr 0 0 0),enS e] [PP p W] (.tup [.one (.val (iv (p.propose e).2.1)),.one (.val (iv (p.propose e).2.2))]) (fun W'=>[PP (p.propose e).1 W']):=by
 unfold PlaneD.propose
 cases hr:p.ready with
 | false =>
   rw [if_pos rfl];exact zhx p h.ok e hr W
 | true =>
   rw [if_neg (by simp)]
   dsimp only
   by_cases ha:(applyD p.c p.s e).1=0
   ·rw [if_neg (by simp [ha])]
    obtain ⟨p1,t,e1,e2,e3⟩:=h.commit hr hs;rw [e1]
    rw [if_neg (by simp)]
    exact zog p h.ok e hr _ (hA.1 ha) (h.cm hr hs).1 p1 e1 e2 W
   ·rw [if_pos ha]
    exact zoh p h.ok e hr _ ha (hA.2 ha) W
theorem zoi {E:LogD} {p:PlaneD} (h:PlI E p) {i:Nat} (hi:i<p.n) (hu:p.isUp (i:Int)=false) (W:Nat→Prop):TriX Tryz.prog 44 [.one (.ptr 0 0 0),.one (.val (.int .i64 (i:Int)))] [PP p W] (vI 0) (fun W'=>[PP { p with up:=p.up+2 ^ i } W']) :=
 zoj p h.ok (i:Int) (by omega) hu W
theorem zp8 {c:CfgD} (hc:c.reps.length=3) (hs:(newSt c).count=0):PlI [] (PlaneD.new c):=by
 refine ⟨.inl (qar hc hs),fun i hi=>?_,by simp⟩
 have hl:(PlaneD.new c).q.reps.length=3:=qas (qar hc hs)
 rw [hl] at hi
 have e0:((PlaneD.new c).q.rep i).recs=[]:=by
  show ((QuoD.new c.reps.length).rep i).recs=[]
  rw [hc]
  obtain rfl|rfl|rfl:i=0∨i=1∨i=2:=by omega
  all_goals rfl
 rw [e0];intro n hn
 cases hn
theorem zzg {c:CfgD} (hc:c.reps.length=1) (hs:(newSt c).count=0):PlI [] (PlaneD.new c):=by
 refine ⟨.inr (qau hc hs),fun i hi=>?_,by simp⟩
 have hl:(PlaneD.new c).q.reps.length=1:=(qau hc hs).len
 rw [hl] at hi
 have e0:((PlaneD.new c).q.rep i).recs=[]:=by
  show ((QuoD.new c.reps.length).rep i).recs=[]
  rw [hc]
  obtain rfl:i=0:=by omega
  rfl
 rw [e0];intro n hn
 cases hn
end Go.Proofs.YtpigpajgjdcagaaGreat
