/- Parts. -/
import Derived.Test.YtpigpajgjdcagaaGreatVm9
import Derived.Test.YtpigpajgjdcagaaGreatVp5
set_option linter.unusedSimpArgs false
set_option linter.unusedVariables false
set_option maxRecDepth 100000
set_option maxHeartbeats 60000000
namespace Go.Proofs.YtpigpajgjdcagaaGreat
open Go.RowKit Eng
theorem zc6 {α:Type} (P:α→Prop) {l:List α} (h:∀ x∈l,P x) (d:α) {i:Nat} (hi:i<l.length):P (l.getD i d):=by
 rw [List.getD_eq_getElem?_getD,List.getElem?_eq_getElem hi];exact h _ (List.getElem_mem hi)
theorem qek (f:Nat→Bool):∀ (i m:Nat),0≤cntR f i m∧cntR f i m≤m
 | _,0=>⟨Int.le_refl 0,Int.le_refl 0⟩
 | i, m + 1 => by
   have:=qek f (i+1) m
   unfold cntR
   split<;>omega
theorem zp3 {c:CfgD} (ok:CfgOk c):validK c.L c=0:=by
 have h1:=ok.regions;have h2:=ok.zones;have h3:=ok.cells;have h4:=ok.vers;have h5:=ok.reps;have h6:=ok.obs;have h7:=ok.tens;have h8:=ok.blast;have h9:=ok.lease;have h10:=ok.bake
 have en:numsP c.L c.regions=true:=by
  unfold numsP;simp only [Bool.and_eq_true,zbe,decide_eq_true_eq];refine ⟨⟨⟨⟨⟨⟨h1,?_⟩,?_⟩,?_⟩,?_⟩,?_⟩,?_⟩
  ·show (1:Int)≤(c.zones.length:Int)∧(c.zones.length:Int)≤8;omega
  ·show (1:Int)≤(c.cells.length:Int)∧(c.cells.length:Int)≤16;omega
  ·show (1:Int)≤(c.vers.length:Int)∧(c.vers.length:Int)≤30;omega
  ·show (1:Int)≤(c.reps.length:Int)∧(c.reps.length:Int)≤5;omega
  ·show (1:Int)≤(c.obs.length:Int)∧(c.obs.length:Int)≤9;omega
  ·show (c.tens.length:Int)≤32;omega
 have ep:placesP c.L c.regions=true:=by
  unfold placesP;simp only [Bool.and_eq_true,List.all_eq_true,List.mem_range]
  refine ⟨⟨⟨fun i hi=>?_,fun i hi=>?_⟩,fun i hi=>?_⟩,fun i hi=>?_⟩
  ·have:=zc6 (fun x=>0≤x∧x<c.regions) ok.zoneR 0 (i:=i) hi
   exact zbe.2 ⟨this.1,by have:=this.2;show c.zones.getD i 0≤c.regions-1;omega⟩
  ·have:=zc6 (fun x:Int × Int=>(0≤x.1∧x.1<(c.zones.length:Int))∧1≤x.2∧x.2≤4194304) ok.cellZ (0,0) (i:=i) hi
   exact zbe.2 ⟨this.1.1,by have:=this.1.2;show (c.cells.getD i (0,0)).1≤(c.zones.length:Int)-1;omega⟩
  ·have:=zc6 (fun x=>0≤x∧x<(c.zones.length:Int)) ok.repZ 0 (i:=i) hi
   exact zbe.2 ⟨this.1,by have:=this.2;show c.reps.getD i 0≤(c.zones.length:Int)-1;omega⟩
  ·have:=zc6 (fun x=>0≤x∧x<(c.zones.length:Int)) ok.obsZ 0 (i:=i) hi
   exact zbe.2 ⟨this.1,by have:=this.2;show c.obs.getD i 0≤(c.zones.length:Int)-1;omega⟩
 have ev:valsP c.L c=true:=by
  unfold valsP;simp only [Bool.and_eq_true,List.all_eq_true,List.mem_range]
  refine ⟨⟨fun i hi=>?_,fun i hi=>?_⟩,⟨zbe.2 h8,zbe.2 h9⟩,zbe.2 h10⟩
  ·have:=zc6 (fun x:Int × Int=>(0≤x.1∧x.1<(c.zones.length:Int))∧1≤x.2∧x.2≤4194304) ok.cellZ (0,0) (i:=i) hi
   exact zbe.2 this.2
  ·have h:=zc6 (fun x:Int × Int=>0≤x.1∧x.1≤x.2∧x.2≤30) ok.ver (0,0) (i:=i) hi
   have h0:i=0→(c.vers.getD i (0,0)).1=0:=by
    rintro rfl
    have hi':0<c.vers.length:=hi
    rw [List.getD_eq_getElem?_getD,List.getElem?_eq_getElem hi'];exact ok.ver0 _ (List.getElem?_eq_getElem hi')
   unfold verP;simp only [Bool.and_eq_true,Bool.or_eq_true,decide_eq_true_eq,Bool.not_eq_true',beq_eq_false_iff_ne,beq_iff_eq];refine ⟨⟨⟨h.1,h.2.1⟩,h.2.2⟩,?_⟩
   by_cases e:i=0
   ·exact .inr (h0 e)
   ·exact .inl e
 have et:tvalP c.L c=0:=by
  unfold tvalP
  rw [if_neg (by rw [en];simp),if_neg]
  rintro (h|h|h)
  ·have:((c.reps.length:Int)).tmod 2=0:=h
   rw [Int.tmod_eq_emod_of_nonneg (by omega)] at this
   omega
  ·rw [ep] at h;cases h
  ·rw [ev] at h;cases h
 unfold validK
 rw [if_neg (by rw [et];simp),if_pos]
 simp only [List.all_eq_true,List.mem_range];intro i hi
 have h:=zc6 (TenOk c.regions) ok.ten default (i:=i) hi
 unfold permP permV
 have e3:std.sub .i64 (std.shl .i64 1 (std.conv .u64 c.regions)) 1=2 ^ c.regions.toNat-1:=by
  rcases (show c.regions=1∨c.regions=2∨c.regions=3∨c.regions=4 by omega) with h|h|h|h<;>rw [h]<;>rfl
 rw [e3]
 have ha:=h.allowed
 simp only [Bool.and_eq_true,zbe]
 exact ⟨⟨⟨⟨⟨h.load,h.shadow⟩,h.prio⟩,h.lag⟩,ha.1,by have:=ha.2;show (c.tens.getD i default).allowed≤_;omega⟩,h.group⟩
theorem zr5 (hst:StNewP) (ln:Nat) (l:List Int) (hln:ln=l.length) (region:Int):TriP Tryz.prog 6 [.one (.rsl 0 ln),.one (.val (.int .i64 region))] [.rs ln (l.map iv)] (vB true):=by
 obtain ⟨A,hA,FG⟩:=aF;unfold GenF at FG;obtain ⟨V,hV⟩:=nm (l.map iv);rw [←hV];obtain ⟨bL,hbL⟩:=nm (decide (ln≤200))
 have tL:=zj6 ln V
 rw [←hbL] at tL
 have ta:=zj5 hst
 have tc:bL=true→TriZ (β:={ c:CfgD // MkOk c }) Tryz.prog 35 [.one (.rsl 0 ln)] [.rs ln V] (fun y=>cfgGS 1 y.1) (fun y=>.rs ln V::cfgGM y.1):=by
  intro h;rw [hbL] at h;have h2:=of_decide_eq_true h;rw [hV];exact zh7 ln l hln (by omega)
 obtain ⟨r,hr⟩:=nm (-1+region % (3 - -1+1))
 have tb:=zg7 region (-1) 3 (by omega) (by omega) (by omega)
 rw [←hr] at tb
 have f0:A.eq 0 0=true:=by rw [hA];rfl
 replace hA:=kH hA;replace hV:=kH hV;replace hbL:=kH hbL;replace hln:=kH hln;replace hr:=kH hr
 refine zad (D:=ords6) (fnO qcn Tryz.func6) 73 (fun w0 own ps R hpl hR kE=>?_)
 refine kN ?_
 conv=>arg 3;cbv
 repeat' first
  | ((with_reducible refine kC ?_);(first|refine nP [.same 0] tL ?_|refine nP [] ta ?_|(refine zee [.same 0] [] (tc (by assumption)) (by rfl) ⟨rfl,trivial⟩ rfl rfl rfl rfl rfl (fun _=>rfl) (fun _=>rfl) (fun _=>⟨.inr rfl,rfl,rfl,rfl,rfl,rfl,rfl,trivial⟩) (fun _=>⟨.inr rfl,trivial⟩) (fun _=>Nat.le_of_ble_eq_true rfl) rfl (fun y=>?_);obtain ⟨c,ok,hc3⟩:=y;(try simp only [cfgGS,cfgGM]);(try dsimp only);obtain ⟨K,hK⟩:=nm (c.L);rw [←hK];replace hK:=kH hK;replace hc3:=kH hc3;replace ok:=kH ok;refine kN ?_));conv=>arg 3;cbv)
  | ((with_reducible refine kG ?_);refine kO1 hR 1 ⟨rfl,rfl⟩)
  | (simp only [*];conv=>arg 3;cbv)
  | (split<;>(rename_i hsp;try simp only [FG] at hsp)<;>conv=>arg 3;cbv)
 have ok2:=ok.out
 have lz:=ok2.lens hK.out
 have FC:=cfgF hA.out hK.out
 unfold CfgF at FC
 have hq:K.rl=c.reps.length:=by rw [hK.out];rfl
 have hn3:c.reps.length≤3:=by rcases hc3.out with h|h<;>omega
 have tq:TriX Tryz.prog 91 [.one (.val (.int .i64 (c.reps.length:Int)))] [] (.tup [.one (.ptr 0 0 0),.one (.val (iv 0))]) (fun W'=>[PQ (QuoD.new c.reps.length) W']):=by
  rcases hc3.out with h|h
  ·rw [h];exact zhz
  ·rw [h];exact zmc
 have tN:=zh2 hK.out rfl lz.1 lz.2.1 lz.2.2.1 lz.2.2.2.1 lz.2.2.2.2.1 lz.2.2.2.2.2 hst (by rw [hK.out];exact zp3 ok2) c.reps.length hq hc3.out tq
 clear tq;obtain ⟨hp1,hp1c,hu1,hk1,hz1⟩:=qam hc3.out r;obtain ⟨p1,hp1e⟩:=nm (((PlaneD.new c).lose r).1);obtain ⟨p2,hp2e⟩:=nm ((p1.lose r).1)
 obtain ⟨N,hN⟩:∃ v9:Nat→Int,v9=fun i=>cntR (inReg c r) i (c.reps.length-i):=⟨_,rfl⟩
 obtain ⟨u,hu⟩:=nm (p1.up);rw [←hp1e] at hp1 hp1c hu1 hz1
 have hzr:∀ i:Nat,i<c.reps.length→0≤c.reps.getD i 0∧c.reps.getD i 0<c.zones.length:=fun i hi=>zc6 (fun x=>0≤x∧x<(c.zones.length:Int)) ok2.repZ 0 hi
 have tl1:∀ W,TriX Tryz.prog 39 [.one (.ptr 0 0 0),.one (.val (.int .i64 r))] [PP (PlaneD.new c) W] (vI (N 0)) (fun W'=>[PP p1 W']):=fun W=>by
  have:=zh3 (zpd hc3.out) hzr r W
  rw [hk1,←hp1e] at this
  rw [show N 0=cntR (inReg c r) 0 c.reps.length by rw [hN];rfl]
  exact this
 have tl2:∀ W,TriX Tryz.prog 39 [.one (.ptr 0 0 0),.one (.val (.int .i64 r))] [PP p1 W] (vI 0) (fun W'=>[PP p2 W']):=fun W=>by
  have:=zh3 hp1 (fun i hi=>by rw [hp1c];exact hzr i (by have h9:p1.n=c.reps.length:=(by unfold PlaneD.n;rw [hp1c]);omega)) r W
  rw [hz1,←hp2e] at this;exact this
 have tu:∀ W,TriP Tryz.prog 40 [.one (.ptr 0 0 0)] [PP p1 W] (vI u):=fun W=>by rw [hu];exact zp9 p1 W
 have l1:∀ i:Nat,A.lt (Int.ofNat i) (A.len K.rl)=true→A.inb (Int.ofNat i) K.rl=true:=by rw [hA.out];intro i;simp [std]
 have l2:∀ i:Nat,A.lt (Int.ofNat i) (A.len K.rl)=true→A.add .i64 (Int.ofNat i) 1=Int.ofNat (i+1):=by rw [hA.out];intro i h;have hb:=(show K.rl≤1000000 by omega);exact za0 (by simpa [std] using h) hb
 have l3:∀ i:Nat,A.lt (Int.ofNat i) (A.len K.rl)=true→i<K.rl:=by rw [hA.out];intro i;simp [std]
 have l4:∀ i:Nat,A.lt (Int.ofNat i) (A.len K.rl)=false→K.rl≤i:=by rw [hA.out];intro i;simp [std]
 have g2:∀ i:Nat,A.lt (Int.ofNat i) (A.len K.rl)=true→A.inb (K.rep (Int.ofNat i)) K.zl=true:=by
  intro i hi;have h9:=hzr i (by have:=l3 i hi;omega);rw [hA.out,hK.out];show std.inb (c.reps.getD i 0) c.zones.length=true;simp only [std];simp;exact h9
 have g3:∀ i:Nat,A.eq (K.zone (K.rep (Int.ofNat i))) r=inReg c r i:=by intro i;rw [hA.out,hK.out];rfl
 have g4:∀ i:Nat,A.lt (Int.ofNat i) (A.len K.rl)=true→A.eq (A.rem (A.shr u (A.conv .u64 (Int.ofNat i)) .i64) 2) 0=inReg c r i:=by
  intro i hi
  have hi2:i<c.reps.length:=by have:=l3 i hi;omega
  have hn:p1.n=c.reps.length:=by unfold PlaneD.n;rw [hp1c]
  rw [hA.out,hu,zyu hp1.ok.up (by omega),←zck (p:=p1) (by omega),hu1 i hi2,Bool.not_not]
 have g5:∀ i:Nat,A.lt (Int.ofNat i) (A.len K.rl)=true→inReg c r i=true→A.sub .i64 (N i) 1=N (i+1):=by
  intro i hi hz
  have hi2:i<c.reps.length:=by have:=l3 i hi;omega
  rw [hN]
  show A.sub .i64 (cntR (inReg c r) i (c.reps.length-i)) 1=cntR (inReg c r) (i+1) (c.reps.length-(i+1))
  rw [show c.reps.length-i=(c.reps.length-(i+1))+1 by omega,cntR,if_pos hz,hA.out]
  have hb:=qek (inReg c r) (i+1) (c.reps.length-(i+1))
  exact (wrap64 (by omega) (by omega)).trans (by omega)
 have g6:∀ i:Nat,A.lt (Int.ofNat i) (A.len K.rl)=true→inReg c r i=false→N i=N (i+1):=by
  intro i hi hz
  have hi2:i<c.reps.length:=by have:=l3 i hi;omega
  rw [hN]
  show cntR (inReg c r) i (c.reps.length-i)=cntR (inReg c r) (i+1) (c.reps.length-(i+1))
  rw [show c.reps.length-i=(c.reps.length-(i+1))+1 by omega,cntR,if_neg (by rw [hz];simp)]
  omega
 have g7:∀ i:Nat,A.lt (Int.ofNat i) (A.len K.rl)=false→A.eq (N i) 0=true:=by
  intro i hi
  have hi2:=l4 i hi
  rw [hN]
  show A.eq (cntR (inReg c r) i (c.reps.length-i)) 0=true
  rw [show c.reps.length-i=0 by omega,hA.out]
  rfl
 have g8:∀ x,A.le 0 (A.conv .u64 x)=true:=by rw [hA.out];exact ule
 have g9:A.not (A.eq 2 0)=true:=by rw [hA.out];rfl
 clear hp1 hp1c hu1 hk1 hz1 hzr;replace hp1e:=kH hp1e;replace hp2e:=kH hp2e;replace hN:=kH hN;replace hu:=kH hu;replace hq:=kH hq;replace g3:=kH g3;clear hn3 lz ok2
 repeat' first
  | ((with_reducible refine kC ?_);(first|(refine kX [.rd (.gsl 1 K.zl),.rd (.gsl 2 K.cl),.rd (.gsl 3 K.tl),.rd (.gsl 4 K.vl),.rd (.gsl 5 K.rl),.rd (.gsl 6 K.ol)] tN (fun W0=>?_);(try simp only [PP]);(try dsimp only);obtain ⟨O0,hO0⟩:=nm (packO (plB (PlaneD.new c)) W0);rw [←hO0];replace hO0:=kH hO0;refine kN ?_)|refine nP [] tb ?_|(have tz:=tl1 W0;simp only [PP] at tz;rw [←hO0.out] at tz;refine kX [.same 8] tz (fun W1=>?_);(try simp only [PP]);(try dsimp only);obtain ⟨O1,hO1⟩:=nm (packO (plB p1) W1);rw [←hO1];replace hO1:=kH hO1;clear tz;refine kN ?_));conv=>arg 3;cbv)
  | (simp only [FG,FC, *];conv=>arg 3;cbv)
  | (split<;>(rename_i hsp;try simp only [FG] at hsp)<;>conv=>arg 3;cbv)
 refine zau 0 (α:={ i:Nat // i≤K.rl }) [4,10,33,34,35,36,37,38,39,40,41,42,43,44,45,46,47,48,49,50,51,52,53,54,55,56,57,58,59,60,61,62,63] (fun x=>[(9,.one (.val (.int .i64 (Int.ofNat x.1)))),(8,.one (.val (.int .i64 (N x.1))))]) (fun x=>K.rl-x.1) ⟨0,Nat.zero_le _⟩ (by cbv;simp) (fun x y hy=>zbp hy trivial trivial) rfl (fun x L' hok hL1 hL2=>?_)
 obtain ⟨i,hi⟩:=x;dsimp only;obtain ⟨z,hz⟩:=nm (inReg c r i)
 have h3:=g3.out i
 have h4:=g4 i
 have h5:=g5 i
 have h6:=g6 i
 rw [←hz] at h3 h4 h5 h6;clear hz g3 g4 g5 g6
 cases z
 ·refine kN ?_
  conv=>arg 3;cbv
  repeat' first
   | ((with_reducible refine kC ?_);(first|(have tz:=tu W1;simp only [PP] at tz;rw [←hO1.out] at tz;refine kP [.same 8] tz ?_;clear tz;refine kN ?_)|refine nP [] ta ?_|(have tz:=tl2 W1;simp only [PP] at tz;rw [←hO1.out] at tz;refine kX [.same 8] tz (fun W2=>?_);(try simp only [PP]);(try dsimp only);obtain ⟨O2,hO2⟩:=nm (packO (plB p2) W2);rw [←hO2];replace hO2:=kH hO2;clear tz;refine kN ?_));conv=>arg 3;cbv)
   | (((with_reducible show Eng.Good _ _ (Eng.St.mk (Eng.It.again _::_) _ _));have hlt:=l3 i (by assumption);have hstep:=l2 i (by assumption);refine zam ⟨rfl,rfl,rfl⟩ hok hL2 ⟨i+1,hlt⟩ (show K.rl-(i+1)<K.rl-i by omega) (by dsimp only;simp only [hstep, *];cbv;simp) rfl))
   | ((with_reducible refine kG ?_);refine kO1 hR 1 ⟨rfl,rfl⟩)
   | (simp only [FG,FC, *];conv=>arg 3;cbv)
   | (split<;>(rename_i hsp;try simp only [FG] at hsp)<;>conv=>arg 3;cbv)
 ·refine kN ?_
  conv=>arg 3;cbv
  repeat' first
   | ((with_reducible refine kC ?_);(first|(have tz:=tu W1;simp only [PP] at tz;rw [←hO1.out] at tz;refine kP [.same 8] tz ?_;clear tz;refine kN ?_)|refine nP [] ta ?_|(have tz:=tl2 W1;simp only [PP] at tz;rw [←hO1.out] at tz;refine kX [.same 8] tz (fun W2=>?_);(try simp only [PP]);(try dsimp only);obtain ⟨O2,hO2⟩:=nm (packO (plB p2) W2);rw [←hO2];replace hO2:=kH hO2;clear tz;refine kN ?_));conv=>arg 3;cbv)
   | (((with_reducible show Eng.Good _ _ (Eng.St.mk (Eng.It.again _::_) _ _));have hlt:=l3 i (by assumption);have hstep:=l2 i (by assumption);refine zam ⟨rfl,rfl,rfl⟩ hok hL2 ⟨i+1,hlt⟩ (show K.rl-(i+1)<K.rl-i by omega) (by dsimp only;simp only [hstep, *];cbv;simp) rfl))
   | ((with_reducible refine kG ?_);refine kO1 hR 1 ⟨rfl,rfl⟩)
   | (simp only [FG,FC, *];conv=>arg 3;cbv)
   | (split<;>(rename_i hsp;try simp only [FG] at hsp)<;>conv=>arg 3;cbv)
end Go.Proofs.YtpigpajgjdcagaaGreat
