/- Parts. -/
import Derived.Test.YtpigpajgjdcagaaGreatUl7
import Derived.Test.YtpigpajgjdcagaaGreatUpa
set_option linter.unusedSimpArgs false
set_option linter.unusedVariables false
set_option maxRecDepth 100000
set_option maxHeartbeats 60000000
namespace Go.Proofs.YtpigpajgjdcagaaGreat
open Go.RowKit Eng
set_option maxRecDepth 10000
theorem znk {e:EnD} (hk:e.kind=16) (tn cn rn vn:Int):fitsP e tn cn rn vn=rightD e 32 16 4 30:=by
 obtain ⟨k,t,a,b,o,ep,lo,hi,n⟩:=e;simp only at hk;subst hk;simp [fitsP,formP,rightD,placesD,numbersD,inB,uT,uC,uC',uO,uR,uE,uW,uV,uB,uM,uN];rw [Bool.eq_iff_iff];simp;omega
theorem zrv {e:EnD} (hk:e.kind=16) (tn cn rn vn:Int):rightD e tn cn rn vn=rightD e 32 16 4 30:=by
 obtain ⟨k,t,a,b,o,ep,lo,hi,n⟩:=e;simp only at hk;subst hk;simp [rightD,placesD,numbersD,inB,uT,uC,uC',uO,uR,uE,uW,uV,uB,uM,uN]
theorem zq0 {c:CfgD} {K:CfgL} {e:EnD} (hk:e.kind=16):validP K c e=validE c e:=by
 unfold validP shapeP validE;rw [znk hk,znk hk,Bool.and_self];exact (zrv hk _ _ _ _).symm
theorem zkx {c:CfgD} {s:StD} {e:EnD} (hk:e.kind=16) (hs:StOk c s):refNP c.L s.L s c e=(applyD c s e).1:=by
 unfold refNP applyD;rw [zq0 hk]
 have h1:s.L.tl=c.L.tl:=hs.tl
 have h2:s.L.cl=c.L.cl:=hs.cl
 by_cases hv:validE c e=false
 ·rw [if_pos (.inl hv),if_pos hv];rfl
 ·rw [if_neg (by rintro (h|h|h);exact hv h;exact h h1;exact h h2),if_neg hv]
  split
  ·rfl
  ·split
   ·rfl
   ·simp [kindD,hk]
theorem qaj {c:CfgD} {s:StD} {e:EnD} (hk:e.kind=16) (h0:(applyD c s e).1=0):(applyD c s e).2={ s with tick:=e.tick,count:=s.count+1 }:=by
 unfold applyD at h0 ⊢
 by_cases hv:validE c e=false
 ·rw [if_pos hv] at h0;cases h0
 ·rw [if_neg hv] at h0 ⊢
  split at h0
  ·cases h0
  ·split at h0
   ·cases h0
   ·rename_i h1 h2
    rw [if_neg h1,if_neg h2];simp [kindD,hk]
theorem zxu {c:CfgD} {s:StD} {e:EnD} (hk:e.kind=16) (ok:CfgOk c) (hs:StOk c s) (hl:s.L.ts.length=s.L.tl * 12) (hl2:s.L.cs.length=s.L.cl * 4) (hb:s.L.tl≤1000000) (hb2:s.L.cl≤1000000):ApSt c s e:=by
 refine ⟨fun h=>?_,fun h=>?_⟩
 ·have h2:=zys (c:=c) rfl (s:=s) rfl e ok hk (by rw [zkx hk hs];exact h) hs.count hl hl2 hb hb2
  rw [qaj hk h];exact h2
 ·have h2:=zyt (c:=c) rfl (s:=s) rfl e ok hk (by rw [zkx hk hs];exact h)
  rw [zkx hk hs] at h2;exact h2
end Go.Proofs.YtpigpajgjdcagaaGreat
