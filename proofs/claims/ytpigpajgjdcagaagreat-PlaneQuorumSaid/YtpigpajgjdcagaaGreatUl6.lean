/- Parts. -/
import Derived.Test.YtpigpajgjdcagaaGreatUl3
import Derived.Test.YtpigpajgjdcagaaGreatUq6
set_option linter.unusedSimpArgs false
set_option linter.unusedVariables false
set_option maxRecDepth 100000
set_option maxHeartbeats 60000000
namespace Go.Proofs.YtpigpajgjdcagaaGreat
open Go.RowKit Eng
set_option maxRecDepth 10000
theorem zp7 {q:QuoD} {w:Nat} {e:EnD} (hw:w<q.reps.length) (h0:((q.rep (w:Int)).propose e).2.2=0) (i:Nat):(q.propose (w:Int) e).1.rep (i:Int)=if (i:Int)=(w:Int) then ((q.rep (w:Int)).propose e).1 else q.rep (i:Int):=by
 have hhas:q.has (w:Int)=true:=by unfold QuoD.has;simp;omega
 have e1:(q.propose (w:Int) e).1=(((q.set (w:Int) ((q.rep (w:Int)).propose e).1).send ((q.rep (w:Int)).propose e).2.1).note):=by
  unfold QuoD.propose
  rw [if_neg (by rw [hhas];simp)]
  dsimp only
  rw [if_neg (by rw [h0];simp)]
 rw [e1]
 have e2:((((q.set (w:Int) ((q.rep (w:Int)).propose e).1).send ((q.rep (w:Int)).propose e).2.1).note)).rep (i:Int)=({ q with reps:=q.reps.set w ((q.rep (w:Int)).propose e).1 }:QuoD).rep (i:Int):=rfl
 rw [e2,zdo hw]
 exact zeb (by omega)
theorem qag {q:QuoD} {w:Nat} (hw:w<q.reps.length) (i:Nat):(q.campaign (w:Int)).rep (i:Int)=if (i:Int)=(w:Int) then (q.rep (w:Int)).campaign.1 else q.rep (i:Int):=by
 have hhas:q.has (w:Int)=true:=by unfold QuoD.has;simp;omega
 have e1:q.campaign (w:Int)=(((q.set (w:Int) (q.rep (w:Int)).campaign.1).send (q.rep (w:Int)).campaign.2).note):=by
  unfold QuoD.campaign
  rw [if_neg (by rw [hhas];simp)]
 rw [e1]
 have e2:((((q.set (w:Int) (q.rep (w:Int)).campaign.1).send (q.rep (w:Int)).campaign.2).note)).rep (i:Int)=({ q with reps:=q.reps.set w (q.rep (w:Int)).campaign.1 }:QuoD).rep (i:Int):=rfl
 rw [e2,zdo hw]
 exact zeb (by omega)
theorem zow {L:Nat} {t:Int} {F:LogD} {d i:Nat} {r:RepD} (h:RInv L t F d i r) (hF:LogOk t F):0≤r.commit∧r.commit≤r.j.log.length∧r.j.log.length≤4096:=by
 have:=h.c0
 have:=h.pre.length_le
 have:=hF.len
 omega
theorem three {L:Nat} (h:L<3):L=0∨L=1∨L=2:=by omega
theorem qa4 {p:PlaneD} {K L:Nat} {up' t:Int} {E:LogD} {q:QuoD} {e:EnD} (hn:p.n=3) (h:FInv K up' L t E true [] q) (hu:QuoD.upB p.up L=true) (hdn:q.done.length=E.length) (hs:shapeB e=true) (hE:E.length≤1000) (hK:K≤2900) (f:Nat) :
 CmOk p e (f+1) q∧(NC q→NC (QuoD.flush 100000 p.up 0 (q.propose (L:Int) e).1))∧q.leader=(L:Int)∧p.isUp (L:Int)=true:=by
 have hL:=h.L3
 have hld:=zgs h
 have hup:p.isUp (L:Int)=true:=by rw [zer hn hL];exact hu
 have hr:=h.reps L hL
 obtain ⟨hro,hx⟩:=h.ldr.ldr rfl
 have hlog:=h.ldr.log
 have htm:=h.ldr.term
 have ht:=h.t1
 have hlen:=h.len
 have hrec:=h.recs L hL
 have hla:=hr.last
 have hx':∀ g:Nat,g<3→g≠L→0≤(q.rep (L:Int)).nx g∧(q.rep (L:Int)).nx g≤(q.rep (L:Int)).j.log.length:=fun g g1 g2=>by rw [hlog];exact ⟨(hx g g1 g2).1,(hx g g1 g2).2.1⟩
 have hll:(q.rep (L:Int)).j.log.length=E.length:=by rw [hlog]
 have hP:POk (q.rep (L:Int)) e∧((q.rep (L:Int)).propose e).2.1.length=2∧((q.rep (L:Int)).propose e).1.recs=(q.rep (L:Int)).recs++[.ent (q.rep (L:Int)).j.term e]:=by
  have hid:=hr.id
  rcases three hL with rfl|rfl|rfl
  ·exact pok0 hid hr.n hr.nl hr.ml hro (by omega) hs hla (by omega) hr.c0.1 hx' (by omega)
  ·exact pok1 hid hr.n hr.nl hr.ml hro (by omega) hs hla (by omega) hr.c0.1 hx' (by omega)
  ·exact pok2 hid hr.n hr.nl hr.ml hro (by omega) hs hla (by omega) hr.c0.1 hx' (by omega)
 obtain ⟨hp0,ks,hF1,hks⟩:=zdq (up:=p.up) h.led hdn hu hs (by omega)
 have hnet:q.net=[]:=h.net
 have hrep:=fun i=>zp7 (q:=q) (w:=L) (e:=e) (by omega) hP.1.1 i
 have hfl:=fun fu (hfu:5000≤fu)=>flok (K:=K+16) fu 0 true ks _ hF1 (by have:=hF1.small;omega) (by have:=hF1.small;omega) (by omega) (by simp;omega)
 refine ⟨?_,fun hnc=>?_,hld,hup⟩
 ·rw [CmOk]
  refine ⟨fun i hi=>?_,?_⟩
  ·have:=(zow (h.reps i (by omega)) h.lg).2.2
   exact this
  ·rw [hld,if_pos hup]
   refine ⟨⟨by omega,hP.1,by rw [hnet,hP.2.1];simp,fun i hi r' hr'=>?_⟩,(hfl 99999 (by omega)).1,?_,?_⟩
   ·rw [←hrep i] at hr'
    have:=zow (hF1.reps i (by omega)) hF1.lg
    rw [←hr'] at this;exact this
   ·rw [hF1.len,hn]
   ·rw [(zf5 hF1).1.len,hn]
 ·refine (hfl 100000 (by omega)).2 fun i hi=>?_
  rw [hrep i]
  have h3:=hF1.len
  split
  ·rw [hP.2.2]
   exact NoCut.app (hnc L (by omega)) (by intro n hn;simp at hn)
  ·exact hnc i (by omega)
theorem cmok3 {p:PlaneD} {E:LogD} (h:P3 E p) (hr:p.ready=true) {e:EnD} (hs:shapeB e=true) (hlen:E.length≤40) :
 CmOk p e 4 p.q∧(NC p.q→NC (PlaneD.commit 4 p e).1.q):=by
 obtain ⟨hr1,hr2⟩:=zmv h.n hr
 have hT:=h.top
 rcases h.st with ⟨L,hu,hL,hdn⟩|hno
 ·have hdl:p.q.done.length=E.length:=by rw [hdn];simp
  obtain ⟨a1,a2,a3,a4⟩:=qa4 (p:=p) h.n hL hu hdl hs (by omega) (by omega) 3
  refine ⟨a1,fun hnc=>?_⟩
  have hy:=znp a1 (f:=3) (R:=PlaneD.commit 4 p e) rfl (by rw [a3];exact a4)
  rw [hy.2,a3];exact a2 hnc
 ·obtain ⟨f,g,f1,g1,fg,fE,gE⟩:=h.maj
  obtain ⟨i,i1,i2,i3⟩:∃ i:Nat,i<3∧QuoD.upB p.up i=true∧(p.q.rep i).j.log=E:=by
   rcases hr2 f g f1 g1 fg with h1|h1
   ·exact ⟨f,f1,h1,fE⟩
   ·exact ⟨g,g1,h1,gE⟩
  obtain ⟨b,b1,b2,b3,b4⟩:=best3 h.n hno i1 i2 i3;obtain ⟨hC,hCd⟩:=zjf hno b1 b4 b3 (hr1 b b1);obtain ⟨hF,hdg⟩:=zf5 hC
  have hdl0:p.q.done.length=E.length:=by rw [hno.done];simp
  obtain ⟨q1,hq1⟩:∃ q1,q1=QuoD.flush 100000 p.up 0 (p.q.campaign b):=⟨_,rfl⟩;rw [←hq1] at hF hdg
  have hd1:=hF.done
  have hdl:q1.done.length=E.length:=by rw [hCd] at hdg;omega
  obtain ⟨a1,a2,a3,a4⟩:=qa4 (p:=p) h.n hF b3 hdl hs (by omega) (by omega) 2
  have hld:p.isUp p.q.leader=false:=by rw [zm9 hno];unfold PlaneD.isUp;simp
  have hbest:({ p with q:=p.q }:PlaneD).best=(b:Int):=b2
  have hrb:=hno.reps b b1
  have hrecb:=hno.recs b b1
  have hll:(p.q.rep (b:Int)).j.log.length=E.length:=by rw [b4]
  have hCo:COk (p.q.rep (b:Int))∧(p.q.rep (b:Int)).campaign.2.length=2∧(p.q.rep (b:Int)).campaign.1.recs=(p.q.rep (b:Int)).recs++[.term ((p.q.rep (b:Int)).j.term+1) (p.q.rep (b:Int)).id]:=by
   have hid:=hrb.1.id
   have ht0:=hrb.1.t0
   have htt:=hrb.2
   rcases three b1 with rfl|rfl|rfl
   ·exact cok0 hid hrb.1.n (by omega) (by omega) (by omega)
   ·exact cok1 hid hrb.1.n (by omega) (by omega) (by omega)
   ·exact cok2 hid hrb.1.n (by omega) (by omega) (by omega)
  have hrep:=fun i=>qag (q:=p.q) (w:=b) (by rw [hno.len];exact b1) i
  have hfl:=fun fu (hfu:5000≤fu)=>flok (K:=60 * E.length+41) fu 0 false _ _ hC (by have:=hC.small;omega) (by have:=hC.small;omega) (by omega) (by omega)
  have hcm:CmOk p e 4 p.q:=by
   rw [CmOk]
   refine ⟨fun i hi=>?_,?_⟩
   ·have:=(hno.reps i (by have:=h.n;omega)).1.pre.length_le
    omega
   ·rw [hld,if_neg (by simp),hbest]
    refine ⟨⟨by rw [hno.len];omega,hCo.1,by rw [hno.net,hCo.2.1];simp,fun i hi r' hr'=>?_⟩,(hfl 99999 (by omega)).1,?_,?_,?_⟩
    ·rw [←hrep i] at hr'
     have:=zow (hC.reps i (by rw [hno.len] at hi;exact hi)) hC.lg
     rw [←hr'] at this;exact this
    ·rw [hC.len,h.n]
    ·rw [←hq1,hF.len,h.n]
    ·rw [←hq1];exact a1
  refine ⟨hcm,fun hnc=>?_⟩
  have hy:=(qcr hcm (f:=3) (R:=PlaneD.commit 4 p e) rfl hld).2
  rw [hbest,←hq1] at hy
  have hy2:=znp a1 (f:=2) (R:=PlaneD.commit 4 p e) hy (by rw [a3];exact a4)
  rw [hy2.2,a3];refine a2 ?_;rw [hq1]
  refine (hfl 100000 (by omega)).2 fun i hi=>?_
  rw [hrep i]
  have h3:=hC.len
  have h4:=hno.len
  split
  ·rw [hCo.2.2]
   exact NoCut.app (hnc b (by omega)) (by intro n hn;simp at hn)
  ·exact hnc i (by omega)
theorem zqf {up:Int} {q:QuoD} (h:q.net=[]) (f c:Nat):FlOk up f c q:=by
 cases f with
 | zero=>exact h
 | succ f=>rw [FlOk,h];trivial
theorem zj4 {q:QuoD} (h:q.reps.length=1):q.leader=if (q.rep 0).role=3 then 0 else -1:=by
 unfold QuoD.leader;rw [zib h];simp [QuoD.leaderGo]
structure One (E:LogD) (q:QuoD):Prop where
 len:q.reps.length=1
 net:q.net=[]
 id:(q.rep 0).id=0
 n:(q.rep 0).n=1
 nl:(q.rep 0).next.length=5
 ml:(q.rep 0).mtch.length=5
 log:(q.rep 0).j.log=E
 lg:LogOk (q.rep 0).j.term E
 tm:1≤(q.rep 0).j.term∧(q.rep 0).j.term≤E.length+1
 c0:0≤(q.rep 0).commit∧(q.rep 0).commit≤E.length
 ro:(q.rep 0).role=3
 done:q.done=E.map (·.2)
 recs:(q.rep 0).recs.length≤4000
theorem qa3 {p:PlaneD} {E:LogD} {q:QuoD} {e:EnD} (hn:p.n=1) (hu:p.up=1) (h:One E q) (hs:shapeB e=true) (hE:E.length≤1000) (f:Nat) :
 CmOk p e (f+1) q∧(NC q→NC (QuoD.flush 100000 p.up 0 (q.propose 0 e).1))∧q.leader=0∧p.isUp 0=true:=by
 have hup:p.isUp 0=true:=by simp [PlaneD.isUp,QuoD.upB,hu,hn]
 have hld:q.leader=0:=by rw [zj4 h.len,if_pos h.ro]
 have hla:tAt (q.rep 0).j.log ((q.rep 0).j.log.length-1)≤(q.rep 0).j.term:=by rw [h.log];exact (zc2 h.lg (by have:=h.tm;omega) _).2
 have htm:=h.tm
 have hc0:=h.c0
 have hll:(q.rep 0).j.log.length=E.length:=by rw [h.log]
 have hP:=pokN (r:=q.rep 0) (e:=e) h.id h.n h.nl h.ml h.ro (by omega) hs hla (by omega) hc0.1 (by have:=h.recs;omega)
 have hp:=zif h.len h.net h.id h.n h.log h.lg ⟨htm.1,by omega⟩ h.ro hc0.2 h.done hs (by omega)
 obtain ⟨q1,hq1⟩:∃ q1,q1=(q.propose 0 e).1:=⟨_,rfl⟩
 have hq1':=hq1
 rw [hp] at hq1'
 have hrep:=fun i=>zp7 (q:=q) (w:=0) (e:=e) (by rw [h.len];omega) hP.1.1 i
 have hnet1:q1.net=[]:=by rw [hq1']
 have hlen1:q1.reps.length=1:=by rw [hq1'];rfl
 have hfl:QuoD.flush 100000 p.up 0 q1=q1:=zqg hnet1
 refine ⟨?_,fun hnc=>?_,hld,hup⟩
 ·rw [CmOk]
  refine ⟨fun i hi=>?_,?_⟩
  ·obtain rfl:i=0:=by omega
   show (q.rep 0).j.log.length≤4096
   omega
  ·rw [hld,if_pos hup,←hq1,hfl]
   refine ⟨⟨by rw [h.len];omega,hP.1,by rw [h.net,hP.2.1];simp,fun i hi r' hr'=>?_⟩,zqf hnet1 _ _,by rw [hlen1,hn],by rw [hlen1,hn]⟩
   obtain rfl:i=0:=by rw [h.len] at hi;omega
   have h9:=hrep 0
   have e9:r'=(q.propose 0 e).1.rep 0:=hr'.trans h9.symm
   rw [e9,←hq1,hq1']
   show 0≤(E.length:Int)+1∧(E.length:Int)+1≤((E++[_]).length:Nat)∧(E++[_]).length≤4096
   simp;omega
 ·rw [←hq1,hfl,hq1']
  intro i hi
  obtain rfl:i=0:=by simp at hi;omega
  show NoCut ((q.rep 0).recs++[_])
  exact NoCut.app (hnc 0 (by rw [h.len];omega)) (by intro n hn;simp at hn)
theorem cmok1 {p:PlaneD} {E:LogD} (h:P1 E p) (hr:p.ready=true) {e:EnD} (hs:shapeB e=true) (hlen:E.length≤40) :
 CmOk p e 4 p.q∧(NC p.q→NC (PlaneD.commit 4 p e).1.q):=by
 have hup:p.up=1:=by
  rcases h.up with h1|h1
  ·exfalso
   unfold PlaneD.ready PlaneD.ups at hr;rw [h.n] at hr;simp [PlaneD.isUp,QuoD.upB,h1] at hr
  ·exact h1
 have hrec:=h.recs
 have htm:=h.tm
 have hc0:=h.c0
 rcases h.role with hro|⟨hro,_,ht1⟩
 ·have hld:p.isUp p.q.leader=false:=by rw [zj4 h.len,if_neg (by omega)];unfold PlaneD.isUp;simp
  have hbest:({ p with q:=p.q }:PlaneD).best=0:=best1 h.n (by simp [PlaneD.isUp,QuoD.upB,hup,h.n]) h.log h.lg htm.1
  have hll:(p.q.rep 0).j.log.length=E.length:=by rw [h.log]
  have hCo:=cokN (r:=p.q.rep 0) h.id h.rn h.nl h.ml (by omega) (by omega) (by omega)
  have hrem:=zbi (r:=p.q.rep 0) (t:=(p.q.rep 0).j.term+1) (v:=0) (by omega) (by omega) (by omega) (by omega)
  have hcam:∃ r1:RepD,(p.q.rep 0).campaign=(r1,[])∧r1={ p.q.rep 0 with role:=3,votes:=1,j:={ (p.q.rep 0).j with term:=(p.q.rep 0).j.term+1,vote:=0 },recs:=(p.q.rep 0).recs++[.term ((p.q.rep 0).j.term+1) 0],next:=RepD.setAll (p.q.rep 0).next 1 E.length,mtch:=RepD.setAll (p.q.rep 0).mtch 1 0 }:=by
   refine ⟨_,?_,rfl⟩;unfold RepD.campaign
   rw [if_neg (by omega),h.id,hrem,if_pos h.rn]
   simp only [RepD.lead,RepD.len,h.rn,h.log];rfl
  obtain ⟨r1,c1,c2⟩:=hcam
  have hqq:p.q.campaign 0=⟨[r1],[],p.q.done⟩:=by
   have hhas:p.q.has 0=true:=by simp [QuoD.has,h.len]
   unfold QuoD.campaign
   rw [if_neg (by rw [hhas];simp),c1]
   have hc1:r1.commit≤p.q.done.length:=by
    rw [c2,h.done]
    have:=h.c0
    simpa using this.2
   have h1:=zib h.len
   have hn:=h.net
   obtain ⟨q,hq⟩:=nm (p.q);rw [←hq] at h1 hn hc1 ⊢;obtain ⟨rs,net,dn⟩:=q;simp only at h1 hn hc1;subst hn;rw [h1];simp [QuoD.send,QuoD.set,QuoD.note,QuoD.note1,hc1]
  obtain ⟨q1,hq1⟩:∃ q1,q1=p.q.campaign 0:=⟨_,rfl⟩
  have hq1':=hq1
  rw [hqq] at hq1'
  have hr1:q1.rep 0=r1:=by rw [hq1'];rfl
  have hnet1:q1.net=[]:=by rw [hq1']
  have hfl:QuoD.flush 100000 p.up 0 q1=q1:=zqg hnet1
  have hOne:One E q1:=by
   have hsl:=fun (l:List Int) (v:Int)=>zdc l 1 v
   refine ⟨by rw [hq1'];rfl,hnet1,by rw [hr1,c2];exact h.id,by rw [hr1,c2];exact h.rn,by rw [hr1,c2];simp only [hsl];exact h.nl,by rw [hr1,c2];simp only [hsl];exact h.ml,by rw [hr1,c2];exact h.log,by rw [hr1,c2];exact h.lg.more (by simp;omega),by rw [hr1,c2];simp;omega,by rw [hr1,c2];exact h.c0,by rw [hr1,c2],by rw [hq1'];exact h.done,by rw [hr1,c2];simp;omega⟩
  obtain ⟨a1,a2,a3,a4⟩:=qa3 (p:=p) (e:=e) h.n hup hOne hs (by omega) 2
  have hcm:CmOk p e 4 p.q:=by
   rw [CmOk]
   refine ⟨fun i hi=>?_,?_⟩
   ·obtain rfl:i=0:=by have:=h.n;omega
    show (p.q.rep 0).j.log.length≤4096
    omega
   ·rw [hld,if_neg (by simp),hbest,←hq1,hfl]
    refine ⟨⟨by rw [h.len];omega,hCo.1,by rw [h.net,hCo.2.1];simp,fun i hi r' hr'=>?_⟩,zqf hnet1 _ _,by rw [hOne.len,h.n],by rw [hOne.len,h.n],a1⟩
    obtain rfl:i=0:=by rw [h.len] at hi;omega
    have e9:r'=(p.q.rep 0).campaign.1:=hr'
    rw [e9,c1,c2]
    show 0≤(p.q.rep 0).commit∧(p.q.rep 0).commit≤((p.q.rep 0).j.log.length:Nat)∧(p.q.rep 0).j.log.length≤4096
    omega
  refine ⟨hcm,fun hnc=>?_⟩
  have hy:=(qcr hcm (f:=3) (R:=PlaneD.commit 4 p e) rfl hld).2
  rw [hbest,←hq1,hfl] at hy
  have hy2:=znp a1 (f:=2) (R:=PlaneD.commit 4 p e) hy (by rw [a3];exact a4)
  rw [hy2.2,a3];refine a2 ?_;intro i hi
  obtain rfl:i=0:=by rw [hOne.len] at hi;omega
  show NoCut (q1.rep 0).recs
  rw [hr1,c2]
  exact NoCut.app (hnc 0 (by rw [h.len];omega)) (by intro n hn;simp at hn)
 ·have hOne:One E p.q:=⟨h.len,h.net,h.id,h.rn,h.nl,h.ml,h.log,h.lg,⟨ht1,by omega⟩,hc0,hro,h.done,by omega⟩
  obtain ⟨a1,a2,a3,a4⟩:=qa3 (p:=p) (e:=e) h.n hup hOne hs (by omega) 3
  refine ⟨a1,fun hnc=>?_⟩
  have hy:=znp a1 (f:=3) (R:=PlaneD.commit 4 p e) rfl (by rw [a3];exact a4)
  rw [hy.2,a3];exact a2 hnc
end Go.Proofs.YtpigpajgjdcagaaGreat
