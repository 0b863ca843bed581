/- Parts. -/
import Derived.Test.YtpigpajgjdcagaaGreatUl2
import Derived.Test.YtpigpajgjdcagaaGreatUq3
import Derived.Test.YtpigpajgjdcagaaGreatUq4
set_option linter.unusedSimpArgs false
set_option linter.unusedVariables false
set_option maxRecDepth 100000
set_option maxHeartbeats 60000000
namespace Go.Proofs.YtpigpajgjdcagaaGreat
open Go.RowKit Eng
structure PrOk (q:QuoD) (w:Int) (e:EnD):Prop where
 rng:0≤w∧w<q.reps.length
 ok:POk (q.rep w) e
 small:q.net.length+((q.rep w).propose e).2.1.length≤200
 cm:∀ i:Nat,i<q.reps.length→∀ r',r'=(if (i:Int)=w then ((q.rep w).propose e).1 else q.rep i)→0≤r'.commit∧r'.commit≤r'.j.log.length∧r'.j.log.length≤4096
structure CpOk (q:QuoD) (w:Int):Prop where
 rng:0≤w∧w<q.reps.length
 ok:COk (q.rep w)
 small:q.net.length+(q.rep w).campaign.2.length≤200
 cm:∀ i:Nat,i<q.reps.length→∀ r',r'=(if (i:Int)=w then (q.rep w).campaign.1 else q.rep i)→0≤r'.commit∧r'.commit≤r'.j.log.length∧r'.j.log.length≤4096
def CmOk (p:PlaneD) (e:EnD):Nat→QuoD→Prop
 | 0,_=>True
 | f + 1, q => (∀ i : Nat, i < p.n → (q.rep (i : Int)).j.log.length ≤ 4096) ∧
   if p.isUp q.leader=true then PrOk q q.leader e∧FlOk p.up 99999 0 (q.propose q.leader e).1∧(q.propose q.leader e).1.reps.length=p.n∧(QuoD.flush 100000 p.up 0 (q.propose q.leader e).1).reps.length=p.n
   else CpOk q ({ p with q:=q }:PlaneD).best∧FlOk p.up 99999 0 (q.campaign ({ p with q:=q }:PlaneD).best)∧(q.campaign ({ p with q:=q }:PlaneD).best).reps.length=p.n∧(QuoD.flush 100000 p.up 0 (q.campaign ({ p with q:=q }:PlaneD).best)).reps.length=p.n∧CmOk p e f (QuoD.flush 100000 p.up 0 (q.campaign ({ p with q:=q }:PlaneD).best))
structure CmS (p:PlaneD) (e:EnD) (R:PlaneD × Bool) where
 f:Nat
 q:QuoD
 W:Nat→Prop
 ok:CmOk p e f q
 fin:PlaneD.commit f { p with q:=q } e=R
 reps:q.reps.length=p.n
 f4:f≤4
theorem znp {p:PlaneD} {e:EnD} {f:Nat} {q:QuoD} {R:PlaneD × Bool} (h:CmOk p e (f+1) q) (hf:PlaneD.commit (f+1) { p with q:=q } e=R) (hu:p.isUp q.leader=true):(PrOk q q.leader e∧FlOk p.up 99999 0 (q.propose q.leader e).1∧(q.propose q.leader e).1.reps.length=p.n∧(QuoD.flush 100000 p.up 0 (q.propose q.leader e).1).reps.length=p.n)∧R=({ p with q:=QuoD.flush 100000 p.up 0 (q.propose q.leader e).1 },decide (p.s.count<((QuoD.flush 100000 p.up 0 (q.propose q.leader e).1).rep q.leader).commit)):=by
 rw [CmOk,if_pos hu] at h;refine ⟨h.2,?_⟩
 have hhas:q.has q.leader=true:=by
  have:=h.2.1.rng
  unfold QuoD.has;simp;omega
 have h2:(q.propose q.leader e).2=0:=by
  unfold QuoD.propose
  rw [if_neg (by rw [hhas];simp)]
  dsimp only
  rw [if_neg (by rw [h.2.1.ok.1];simp)]
 rw [←hf,PlaneD.commit];rw [if_pos ⟨hu,h2⟩];simp only [PlaneD.flush,hhas,Bool.true_and];rfl
theorem qcr {p:PlaneD} {e:EnD} {f:Nat} {q:QuoD} {R:PlaneD × Bool} (h:CmOk p e (f+1) q) (hf:PlaneD.commit (f+1) { p with q:=q } e=R) (hu:p.isUp q.leader=false):(CpOk q ({ p with q:=q }:PlaneD).best∧FlOk p.up 99999 0 (q.campaign ({ p with q:=q }:PlaneD).best)∧(q.campaign ({ p with q:=q }:PlaneD).best).reps.length=p.n∧(QuoD.flush 100000 p.up 0 (q.campaign ({ p with q:=q }:PlaneD).best)).reps.length=p.n∧CmOk p e f (QuoD.flush 100000 p.up 0 (q.campaign ({ p with q:=q }:PlaneD).best)))∧PlaneD.commit f { p with q:=QuoD.flush 100000 p.up 0 (q.campaign ({ p with q:=q }:PlaneD).best) } e=R:=by
 rw [CmOk,if_neg (by rw [hu];simp)] at h
 refine ⟨h.2,?_⟩
 rw [←hf,PlaneD.commit,if_neg (fun h3=>by have h4:p.isUp q.leader=true:=h3.1;rw [hu] at h4;cases h4)]
 rfl
theorem qdb {p:PlaneD} (hp:PlOk p) {q:QuoD} (h:q.reps.length=p.n):PlOk { p with q:=q }:=⟨hp.up,hp.n3,hp.n13,h⟩
def ordsCM:Ords:=[(300,[],0,[0]),(4,[(0,false),(1,true),(2,true),(3,true),(4,false),(5,false),(6,false),(7,false),(8,false),(9,true),(10,true),(11,true),(12,true),(13,true)],14,[7]),(5,[(0,false),(1,false),(2,false),(3,false),(4,true),(5,true),(6,true),(7,true),(8,true)],9,[7]),(6,[(0,false),(1,false),(2,false),(3,false),(4,false),(6,false),(7,false),(8,false),(9,false),(10,false),(5,true),(11,true),(12,true)],13,[]),(7,[(0,false),(1,false),(2,false),(3,false),(4,true),(5,true),(6,true),(7,true)],8,[7]),(8,[(0,false),(1,false),(2,false),(3,false),(4,true),(5,true),(6,true),(7,true),(8,true)],9,[7])]
theorem zl4 (p:PlaneD) (hp:PlOk p) (e:EnD) (hcm0:CmOk p e 4 p.q) (R0:PlaneD × Bool) (hR0:PlaneD.commit 4 p e=R0) (W:Nat→Prop):TriX Tryz.prog 104 [.one (.ptr 0 0 0),enS e] (plB p W) (vB R0.2) (fun W'=>plB R0.1 W'):=by
 obtain ⟨A,hA,FG⟩:=aF
 have hR0':PlaneD.commit 4 { p with q:=p.q } e=R0:=hR0
 replace hA:=kH hA
 refine zad (D:=ordsCM) (fnO zvi Tryz.func104) 64 (fun w0 own ps R hpl hR kE=>?_)
 unfold enS;change Eng.Good _ _ (Eng.St.mk _ _ [.own 151 [.val (iv p.c.regions),.gsl 1 p.c.L.zl,.gsl 2 p.c.L.cl,.gsl 3 p.c.L.tl,.gsl 4 p.c.L.vl,.gsl 5 p.c.L.rl,.gsl 6 p.c.L.ol,.val (iv p.c.blast),.val (iv p.c.lease),.val (iv p.c.bake),.ptr 7 0 0,.val (iv p.up),.val (iv p.s.tick),.val (iv p.s.count),.gsl 8 p.s.L.tl,.gsl 9 p.s.L.cl,.val (iv p.s.proven),.val (iv p.s.evac),.val (iv p.s.low),.val (iv p.s.high)],.grow 75 1 p.c.L.zl p.c.L.zs,.grow 137 2 p.c.L.cl p.c.L.cs,.grow 143 7 p.c.L.tl p.c.L.ts,.grow 141 2 p.c.L.vl p.c.L.vs,.grow 3 1 p.c.L.rl p.c.L.rs,.grow 3 1 p.c.L.ol p.c.L.os,PQ p.q W,.grow 134 12 p.s.L.tl p.s.L.ts,.grow 167 4 p.s.L.cl p.s.L.cs]);obtain ⟨K,hK⟩:=nm (p.c.L);obtain ⟨S,hS⟩:=nm (p.s.L);rw [←hK,←hS];obtain ⟨e0,he0⟩:=nm (e.kind);rw [←he0];obtain ⟨e1,he1⟩:=nm (e.tick);rw [←he1];obtain ⟨e2,he2⟩:=nm (e.tenant);rw [←he2];obtain ⟨e3,he3⟩:=nm (e.cell);rw [←he3];obtain ⟨e4,he4⟩:=nm (e.other);rw [←he4];obtain ⟨e5,he5⟩:=nm (e.epoch);rw [←he5];obtain ⟨e6,he6⟩:=nm (e.lo);rw [←he6];obtain ⟨e7,he7⟩:=nm (e.hi);rw [←he7];obtain ⟨e8,he8⟩:=nm (e.n);rw [←he8];obtain ⟨OQ0,hOQ0⟩:=nm (packO (qB p.q) W);unfold PQ;rw [←hOQ0];change Hid _ at hK hS he0 he1 he2 he3 he4 he5 he6 he7 he8;refine kN ?_
 conv=>arg 3;cbv
 repeat' first
  | (simp only [FG];conv=>arg 3;cbv)
 refine zas 0 (α:=CmS p e R0) [4,5,7,8,9,10,11,12,13,14,15,16,17,18,19,20,21,22,23,24,25,26,27,28,29,30,31,32,33,34,35,36,37,38,39,40,41,42,43,44,45,46,47,48,49,50,51,52,53,54,55,56,57,58,59,60,61,62,63,64,65] (fun y=>[(6,.one (.val (.int .i64 (4-(y.f:Int)))))]) (fun y=>[.own 151 [.val (iv p.c.regions),.gsl 1 K.zl,.gsl 2 K.cl,.gsl 3 K.tl,.gsl 4 K.vl,.gsl 5 K.rl,.gsl 6 K.ol,.val (iv p.c.blast),.val (iv p.c.lease),.val (iv p.c.bake),.ptr 7 0 0,.val (iv p.up),.val (iv p.s.tick),.val (iv p.s.count),.gsl 8 S.tl,.gsl 9 S.cl,.val (iv p.s.proven),.val (iv p.s.evac),.val (iv p.s.low),.val (iv p.s.high)],.grow 75 1 K.zl K.zs,.grow 137 2 K.cl K.cs,.grow 143 7 K.tl K.ts,.grow 141 2 K.vl K.vs,.grow 3 1 K.rl K.rs,.grow 3 1 K.ol K.os,.obj (packO (qB y.q) y.W),.grow 134 12 S.tl S.ts,.grow 167 4 S.cl S.cs,.own 45 [.val (iv e0),.val (iv e1),.val (iv e2),.val (iv e3),.val (iv e4),.val (iv e5),.val (iv e6),.val (iv e7),.val (iv e8)]]) (fun y=>y.f) ⟨4,p.q,W,hcm0,hR0',hp.reps,Nat.le_refl 4⟩ (by cbv;simp) (by rw [hOQ0]) (fun y=>rfl) (fun y z hy=>za0 hy trivial) rfl (fun y L' hL1 hL2=>?_)
 obtain ⟨f,q,W0,hC,hE,hreps,hf4⟩:=y;dsimp only
 have hpq:PlOk { p with q:=q }:=qdb hp hreps
 obtain ⟨OQ,hOQ⟩:=nm (packO (qB q) W0);rw [←hOQ];obtain ⟨cI,hcI⟩:=nm (4-(f:Int));rw [←hcI]
 rcases hz:f with _|g
 ·have f0:A.lt cI 4=false:=by rw [hA.out,hcI,hz];rfl
  change Hid _ at hOQ hcI;refine kN ?_
  repeat' (conv=>arg 3;try cbv);first
   | ((with_reducible refine kG ?_);rw [hOQ.out,hK.out,hS.out];have hRz:R0=({ p with q:=q },false):=(by rw [←hE,hz];rfl);subst hRz;refine kO1 hR 10 ⟨rfl,W0,rfl⟩)
   | simp only [*]
   | (split<;>(rename_i hsp;try simp only [FG] at hsp))
 ·subst hz
  have f0:A.lt cI 4=true:=by rw [hA.out,hcI];simp [std];omega
  obtain ⟨cJ,hcJ⟩:=nm (4-(g:Int))
  have f1:A.add .i64 cI 1=cJ:=by rw [hA.out,hcI,hcJ];exact (wrap64 (by omega) (by omega)).trans (by omega)
  have f2:A.eq 0 0=true:=by rw [hA.out];rfl
  obtain ⟨ld,hld⟩:=nm (q.leader)
  have tL:TriP Tryz.prog 194 [.one (.ptr 0 0 0)] [.obj OQ] (vI ld):=by
   rw [hOQ,hld];exact zof q (by have:=hp.n3;omega) W0
  have tU:TriP Tryz.prog 95 [.one (.ptr 0 0 0),.one (.val (.int .i64 ld))] [.own 151 [.val (iv p.c.regions),.gsl 1 K.zl,.gsl 2 K.cl,.gsl 3 K.tl,.gsl 4 K.vl,.gsl 5 K.rl,.gsl 6 K.ol,.val (iv p.c.blast),.val (iv p.c.lease),.val (iv p.c.bake),.ptr 7 0 0,.val (iv p.up),.val (iv p.s.tick),.val (iv p.s.count),.gsl 8 S.tl,.gsl 9 S.cl,.val (iv p.s.proven),.val (iv p.s.evac),.val (iv p.s.low),.val (iv p.s.high)],.grow 75 1 K.zl K.zs,.grow 137 2 K.cl K.cs,.grow 143 7 K.tl K.ts,.grow 141 2 K.vl K.vs,.grow 3 1 K.rl K.rs,.grow 3 1 K.ol K.os,.obj OQ,.grow 134 12 S.tl S.ts,.grow 167 4 S.cl S.cs] (vB (p.isUp ld)):=by
   rw [hOQ,hK.out,hS.out];exact zb3 { p with q:=q } W0 hpq ld
  cases hu:p.isUp ld with
  | true =>
    obtain ⟨⟨hP,hFl,hr1,hr2⟩,hRy⟩:=znp hC hE (by rw [←hld];exact hu)
    rw [←hld] at hP hFl hr1 hr2 hRy;obtain ⟨q1,hq1⟩:=nm ((q.propose ld e).1);rw [←hq1] at hFl hr1 hr2 hRy;obtain ⟨qf,hqf⟩:=nm (QuoD.flush 100000 p.up 0 q1);rw [←hqf] at hr2 hRy
    have tP:TriX Tryz.prog 96 [.one (.ptr 0 0 0),.agg [.val (iv 2),.val (iv ld),.val (iv 0),.val (iv e0),.val (iv e1),.val (iv e2),.val (iv e3),.val (iv e4),.val (iv e5),.val (iv e6),.val (iv e7),.val (iv e8)]] [.obj OQ] (vI 0) (fun W'=>[PQ q1 W']):=by
     rw [hOQ,hq1,he0.out,he1.out,he2.out,he3.out,he4.out,he5.out,he6.out,he7.out,he8.out];exact zs4 q ld hP.rng (by have:=hp.n3;omega) 0 e hP.ok hP.small hP.cm W0
    have tF:∀ W1,Tri Tryz.prog 195 [.one (.ptr 0 0 0),.one (.val (.int .i64 p.up))] [PQ q1 W1] (fun v m=>∃ (c:Int) (W':Nat→Prop),v=vI c∧m=[PQ qf W']):=fun W1=>zjt p.up hp.up 99999 q1 hFl (by have:=hp.n3;omega) qf hqf.symm W1
    have tC:∀ W1,TriP Tryz.prog 196 [.one (.ptr 0 0 0),.one (.val (.int .i64 ld))] [PQ qf W1] (vI (qf.rep ld).commit):=fun W1=>zyc qf ld (by rw [hr2];have:=hP.rng;omega) W1
    obtain ⟨cmt,hcmt⟩:=nm ((qf.rep ld).commit);rw [←hcmt] at tC hRy;obtain ⟨bb,hbb⟩:=nm (decide (p.s.count<cmt))
    have f3:A.lt p.s.count cmt=bb:=by rw [hA.out,hbb];rfl
    rw [←hbb] at hRy;rw [hu] at tU;change Hid _ at hOQ hcI hcJ hld hq1 hqf hcmt hbb hRy hr1 hr2 hu hreps hE;refine kN ?_
    repeat' (conv=>arg 3;try cbv);first
     | ((with_reducible refine kC ?_);(first|refine nP [.same 7] tL ?_|refine nP [.same 0,.same 1,.same 2,.same 3,.same 4,.same 5,.same 6,.same 7,.same 8,.same 9] tU ?_|(refine kX [.same 7] tP (fun W1=>?_);have tF2:=tF W1;unfold PQ;unfold PQ at tF2;obtain ⟨O1,hO1⟩:=nm (packO (qB q1) W1);rw [←hO1] at tF2 ⊢;replace hO1:=kH hO1;clear tF tP;refine kN ?_)|(refine zhl [.same 7] tF2 (by rfl) ⟨rfl,trivial⟩ rfl rfl (zaj rfl) rfl (zbc rfl) (fun v m hq=>by { obtain ⟨c,W',rfl,rfl⟩:=hq;exact ⟨rfl,rfl,⟨.inl rfl,trivial⟩⟩ }) rfl (fun v m hq=>?_);obtain ⟨fc,W2,rfl,rfl⟩:=hq;have tC2:=tC W2;(try unfold PQ);unfold PQ at tC2;obtain ⟨O2,hO2⟩:=nm (packO (qB qf) W2);rw [←hO2] at tC2;rw [←hO2];replace hO2:=kH hO2;clear tF2 tC;refine kN ?_)|refine nP [.same 7] tC2 ?_))
     | ((with_reducible refine kG ?_);rw [hO2.out,hK.out,hS.out];have hRz:=hRy.out;subst hRz;refine kO1 hR 10 ⟨rfl,W2,rfl⟩)
     | simp only [*]
     | (split<;>(rename_i hsp;try simp only [FG] at hsp))
  | false =>
    obtain ⟨⟨hP,hFl,hr1,hr2,hC2⟩,hE2⟩:=qcr hC hE (by rw [←hld];exact hu)
    obtain ⟨bst,hbst⟩:=nm (({ p with q:=q }:PlaneD).best)
    rw [←hbst] at hP hFl hr1 hr2 hC2 hE2;obtain ⟨q1,hq1⟩:=nm (q.campaign bst);rw [←hq1] at hFl hr1 hr2 hC2 hE2;obtain ⟨qf,hqf⟩:=nm (QuoD.flush 100000 p.up 0 q1);rw [←hqf] at hr2 hC2 hE2
    have hlg:∀ i:Nat,i<p.n→(q.rep (i:Int)).j.log.length≤4096:=by rw [CmOk] at hC;exact hC.1
    have tB:TriP Tryz.prog 197 [.one (.ptr 0 0 0)] [.own 151 [.val (iv p.c.regions),.gsl 1 K.zl,.gsl 2 K.cl,.gsl 3 K.tl,.gsl 4 K.vl,.gsl 5 K.rl,.gsl 6 K.ol,.val (iv p.c.blast),.val (iv p.c.lease),.val (iv p.c.bake),.ptr 7 0 0,.val (iv p.up),.val (iv p.s.tick),.val (iv p.s.count),.gsl 8 S.tl,.gsl 9 S.cl,.val (iv p.s.proven),.val (iv p.s.evac),.val (iv p.s.low),.val (iv p.s.high)],.grow 75 1 K.zl K.zs,.grow 137 2 K.cl K.cs,.grow 143 7 K.tl K.ts,.grow 141 2 K.vl K.vs,.grow 3 1 K.rl K.rs,.grow 3 1 K.ol K.os,.obj OQ,.grow 134 12 S.tl S.ts,.grow 167 4 S.cl S.cs] (vI bst):=by
     rw [hOQ,hK.out,hS.out,hbst];exact zoo { p with q:=q } W0 hpq hlg
    have tP:TriX Tryz.prog 96 [.one (.ptr 0 0 0),.agg [.val (iv 1),.val (iv bst),.val (iv 0),.val (iv 0),.val (iv 0),.val (iv 0),.val (iv 0),.val (iv 0),.val (iv 0),.val (iv 0),.val (iv 0),.val (iv 0)]] [.obj OQ] (vI 0) (fun W'=>[PQ q1 W']):=by
     rw [hOQ,hq1];exact zs9 q bst hP.rng (by have:=hp.n3;omega) 0 0 0 0 0 0 0 0 0 0 hP.ok hP.small hP.cm W0
    have tF:∀ W1,Tri Tryz.prog 195 [.one (.ptr 0 0 0),.one (.val (.int .i64 p.up))] [PQ q1 W1] (fun v m=>∃ (c:Int) (W':Nat→Prop),v=vI c∧m=[PQ qf W']):=fun W1=>zjt p.up hp.up 99999 q1 hFl (by have:=hp.n3;omega) qf hqf.symm W1
    rw [hu] at tU;change Hid _ at hOQ hcI hcJ hld hq1 hqf hbst hr1 hr2 hu hreps hE hE2 hC2;refine kN ?_
    repeat' (conv=>arg 3;try cbv);first
     | ((with_reducible refine kC ?_);(first|refine nP [.same 7] tL ?_|refine nP [.same 0,.same 1,.same 2,.same 3,.same 4,.same 5,.same 6,.same 7,.same 8,.same 9] tU ?_|refine nP [.same 0,.same 1,.same 2,.same 3,.same 4,.same 5,.same 6,.same 7,.same 8,.same 9] tB ?_|(refine kX [.same 7] tP (fun W1=>?_);have tF2:=tF W1;unfold PQ;unfold PQ at tF2;obtain ⟨O1,hO1⟩:=nm (packO (qB q1) W1);rw [←hO1] at tF2 ⊢;replace hO1:=kH hO1;clear tF tP;refine kN ?_)|(refine zhl [.same 7] tF2 (by rfl) ⟨rfl,trivial⟩ rfl rfl (zaj rfl) rfl (zbc rfl) (fun v m hq=>by { obtain ⟨c,W',rfl,rfl⟩:=hq;exact ⟨rfl,rfl,⟨.inl rfl,trivial⟩⟩ }) rfl (fun v m hq=>?_);obtain ⟨fc,W2,rfl,rfl⟩:=hq;(try unfold PQ);obtain ⟨O2,hO2⟩:=nm (packO (qB qf) W2);rw [←hO2];replace hO2:=kH hO2;clear tF2;refine kN ?_)))
     | (((with_reducible refine kA ?_);rw [hO2.out];refine zaw ⟨rfl,rfl,rfl⟩ hL2 ⟨g,qf,W2,hC2.out,hE2.out,hr2.out,(by omega)⟩ (Nat.lt_succ_self g) (by dsimp only;simp only [f1,←hcJ.out];cbv;simp) rfl (zaj rfl)))
     | simp only [*]
     | (split<;>(rename_i hsp;try simp only [FG] at hsp))
end Go.Proofs.YtpigpajgjdcagaaGreat
