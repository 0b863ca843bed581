/- Parts. -/
import Derived.Test.YtpigpajgjdcagaaGreatUm9
import Derived.Test.YtpigpajgjdcagaaGreatUp5
set_option linter.unusedSimpArgs false
set_option linter.unusedVariables false
set_option maxRecDepth 100000
set_option maxHeartbeats 60000000
namespace Go.Proofs.YtpigpajgjdcagaaGreat
open Go.RowKit Eng
theorem zdt {α:Type} (P:α→Prop) {l:List α} (h:∀ x∈l,P x) (d:α) {i:Nat} (hi:i<l.length):P (l.getD i d):=by
 rw [List.getD_eq_getElem?_getD,List.getElem?_eq_getElem hi];exact h _ (List.getElem_mem hi)
theorem zxy {c:CfgD} (ok:CfgOk c):validK c.L c=0:=by
 have h1:=ok.regions;have h2:=ok.zones;have h3:=ok.cells;have h4:=ok.vers;have h5:=ok.reps;have h6:=ok.obs;have h7:=ok.tens;have h8:=ok.blast;have h9:=ok.lease;have h10:=ok.bake
 have en:numsP c.L c.regions=true:=by
  unfold numsP;simp only [Bool.and_eq_true,zbd,decide_eq_true_eq];refine ⟨⟨⟨⟨⟨⟨h1,?_⟩,?_⟩,?_⟩,?_⟩,?_⟩,?_⟩
  ·show (1:Int)≤(c.zones.length:Int)∧(c.zones.length:Int)≤8;omega
  ·show (1:Int)≤(c.cells.length:Int)∧(c.cells.length:Int)≤16;omega
  ·show (1:Int)≤(c.vers.length:Int)∧(c.vers.length:Int)≤30;omega
  ·show (1:Int)≤(c.reps.length:Int)∧(c.reps.length:Int)≤5;omega
  ·show (1:Int)≤(c.obs.length:Int)∧(c.obs.length:Int)≤9;omega
  ·show (c.tens.length:Int)≤32;omega
 have ep:placesP c.L c.regions=true:=by
  unfold placesP;simp only [Bool.and_eq_true,List.all_eq_true,List.mem_range]
  refine ⟨⟨⟨fun i hi=>?_,fun i hi=>?_⟩,fun i hi=>?_⟩,fun i hi=>?_⟩
  ·have:=zdt (fun x=>0≤x∧x<c.regions) ok.zoneR 0 (i:=i) hi
   exact zbd.2 ⟨this.1,by have:=this.2;show c.zones.getD i 0≤c.regions-1;omega⟩
  ·have:=zdt (fun x:Int × Int=>(0≤x.1∧x.1<(c.zones.length:Int))∧1≤x.2∧x.2≤4194304) ok.cellZ (0,0) (i:=i) hi
   exact zbd.2 ⟨this.1.1,by have:=this.1.2;show (c.cells.getD i (0,0)).1≤(c.zones.length:Int)-1;omega⟩
  ·have:=zdt (fun x=>0≤x∧x<(c.zones.length:Int)) ok.repZ 0 (i:=i) hi
   exact zbd.2 ⟨this.1,by have:=this.2;show c.reps.getD i 0≤(c.zones.length:Int)-1;omega⟩
  ·have:=zdt (fun x=>0≤x∧x<(c.zones.length:Int)) ok.obsZ 0 (i:=i) hi
   exact zbd.2 ⟨this.1,by have:=this.2;show c.obs.getD i 0≤(c.zones.length:Int)-1;omega⟩
 have ev:valsP c.L c=true:=by
  unfold valsP;simp only [Bool.and_eq_true,List.all_eq_true,List.mem_range]
  refine ⟨⟨fun i hi=>?_,fun i hi=>?_⟩,⟨zbd.2 h8,zbd.2 h9⟩,zbd.2 h10⟩
  ·have:=zdt (fun x:Int × Int=>(0≤x.1∧x.1<(c.zones.length:Int))∧1≤x.2∧x.2≤4194304) ok.cellZ (0,0) (i:=i) hi
   exact zbd.2 this.2
  ·have h:=zdt (fun x:Int × Int=>0≤x.1∧x.1≤x.2∧x.2≤30) ok.ver (0,0) (i:=i) hi
   have h0:i=0→(c.vers.getD i (0,0)).1=0:=by
    rintro rfl
    have hi':0<c.vers.length:=hi
    rw [List.getD_eq_getElem?_getD,List.getElem?_eq_getElem hi'];exact ok.ver0 _ (List.getElem?_eq_getElem hi')
   unfold verP;simp only [Bool.and_eq_true,Bool.or_eq_true,decide_eq_true_eq,Bool.not_eq_true',beq_eq_false_iff_ne,beq_iff_eq];refine ⟨⟨⟨h.1,h.2.1⟩,h.2.2⟩,?_⟩
   by_cases e:i=0
   ·exact .inr (h0 e)
   ·exact .inl e
 have et:tvalP c.L c=0:=by
  unfold tvalP
  rw [if_neg (by rw [en];simp),if_neg]
  rintro (h|h|h)
  ·have:((c.reps.length:Int)).tmod 2=0:=h
   rw [Int.tmod_eq_emod_of_nonneg (by omega)] at this
   omega
  ·rw [ep] at h;cases h
  ·rw [ev] at h;cases h
 unfold validK
 rw [if_neg (by rw [et];simp),if_pos]
 simp only [List.all_eq_true,List.mem_range];intro i hi
 have h:=zdt (TenOk c.regions) ok.ten default (i:=i) hi
 unfold permP permV
 have e3:std.sub .i64 (std.shl .i64 1 (std.conv .u64 c.regions)) 1=2 ^ c.regions.toNat-1:=by
  rcases (show c.regions=1∨c.regions=2∨c.regions=3∨c.regions=4 by omega) with h|h|h|h<;>rw [h]<;>rfl
 rw [e3]
 have ha:=h.allowed
 simp only [Bool.and_eq_true,zbd]
 exact ⟨⟨⟨⟨⟨h.load,h.shadow⟩,h.prio⟩,h.lag⟩,ha.1,by have:=ha.2;show (c.tens.getD i default).allowed≤_;omega⟩,h.group⟩
end Go.Proofs.YtpigpajgjdcagaaGreat
