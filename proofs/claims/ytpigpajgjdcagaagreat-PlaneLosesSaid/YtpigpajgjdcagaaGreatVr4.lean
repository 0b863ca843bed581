/- Parts of the proof, merged. -/
import Derived.Test.YtpigpajgjdcagaaGreatVr1
set_option linter.unusedSimpArgs false
set_option linter.unusedVariables false
set_option maxRecDepth 100000
set_option maxHeartbeats 60000000
namespace Go.Proofs.YtpigpajgjdcagaaGreat
open Go.RowKit Eng
theorem zl6 (k:K3) (ro cm vo xx3 x3 x4 y0 y1 y2 y3 y4:Int) (X:JD) (W:Nat→Prop) (i1 i2:Nat) (hi1:i1≤X.j.log.length) (hi2:i2≤X.j.log.length) (hlb:X.j.log.length≤4096):TriY Tryz.prog 244 [.one (.ptr 0 0 0),.one (.bnd 252 0)] ([rb (s3 k 0 1 2) 3 ro cm vo (s3 k xx3 ((i1:Int)) ((i1:Int))) (s3 k ((i1:Int)) xx3 ((i2:Int))) (s3 k ((i2:Int)) ((i2:Int)) xx3) x3 x4 y0 y1 y2 y3 y4,PJ X W]) (.one (.gsl 2 2)) (fun y:(Nat × Nat) × (Nat × Nat)=>[rb (s3 k 0 1 2) 3 ro cm vo (s3 k xx3 ((i1:Int)) ((i1:Int))) (s3 k ((i1:Int)) xx3 ((i2:Int))) (s3 k ((i2:Int)) ((i2:Int)) xx3) x3 x4 y0 y1 y2 y3 y4,PJ X W,.grow 226 9 2 [iv 3,iv (s3 k 0 1 2),iv (s3 k 1 0 0),iv X.j.term,iv (i1:Int),iv (atJ X.j.log ((i1:Int)-1)).1,iv cm,.bool false,.slice (gA y.1) (X.j.log.drop i1).length (gC y.1),iv 3,iv (s3 k 0 1 2),iv (s3 k 2 2 1),iv X.j.term,iv (i2:Int),iv (atJ X.j.log ((i2:Int)-1)).1,iv cm,.bool false,.slice (gA y.2) (X.j.log.drop i2).length (gC y.2)],.obj (poolO [atO (.grow 270 10 ((X.j.log.drop i1).length) (logV (X.j.log.drop i1))) y.1,atO (.grow 270 10 ((X.j.log.drop i2).length) (logV (X.j.log.drop i2))) y.2])]):=by
 obtain ⟨A,hA,FG⟩:=aF;obtain ⟨O,hO⟩:=nm (oJ X W)
 change TriY _ _ _ [rb (s3 k 0 1 2) 3 ro cm vo (s3 k xx3 ((i1:Int)) ((i1:Int))) (s3 k ((i1:Int)) xx3 ((i2:Int))) (s3 k ((i2:Int)) ((i2:Int)) xx3) x3 x4 y0 y1 y2 y3 y4,.obj (oJ X W)] _ (fun y:(Nat × Nat) × (Nat × Nat)=>[rb (s3 k 0 1 2) 3 ro cm vo (s3 k xx3 ((i1:Int)) ((i1:Int))) (s3 k ((i1:Int)) xx3 ((i2:Int))) (s3 k ((i2:Int)) ((i2:Int)) xx3) x3 x4 y0 y1 y2 y3 y4,.obj (oJ X W),.grow 226 9 2 [iv 3,iv (s3 k 0 1 2),iv (s3 k 1 0 0),iv X.j.term,iv (i1:Int),iv (atJ X.j.log ((i1:Int)-1)).1,iv cm,.bool false,.slice (gA y.1) (X.j.log.drop i1).length (gC y.1),iv 3,iv (s3 k 0 1 2),iv (s3 k 2 2 1),iv X.j.term,iv (i2:Int),iv (atJ X.j.log ((i2:Int)-1)).1,iv cm,.bool false,.slice (gA y.2) (X.j.log.drop i2).length (gC y.2)],.obj (poolO [atO (.grow 270 10 ((X.j.log.drop i1).length) (logV (X.j.log.drop i1))) y.1,atO (.grow 270 10 ((X.j.log.drop i2).length) (logV (X.j.log.drop i2))) y.2])])
 rw [←hO]
 have ta:TriM _ _ _ [_,.obj (oJ X W)] _ [_,.obj (oJ X W),_]:=zhy (s3 k K3.b K3.a K3.a) (s3 k 0 1 2) 3 ro cm vo (s3 k xx3 xx3 (i2:Int)) (s3 k (i2:Int) (i2:Int) xx3) x3 x4 y0 y1 y2 y3 y4 X W i1 hi1 hlb
 have tb:TriM _ _ _ [_,.obj (oJ X W)] _ [_,.obj (oJ X W),_]:=zhy (s3 k K3.c K3.c K3.b) (s3 k 0 1 2) 3 ro cm vo (s3 k xx3 (i1:Int) (i1:Int)) (s3 k (i1:Int) xx3 xx3) x3 x4 y0 y1 y2 y3 y4 X W i2 hi2 hlb
 cases k
 all_goals dsimp only [s3,s6] at *
 all_goals
  rw [←hO] at ta tb;obtain ⟨d1,hd1⟩:=nm ((X.j.log.drop i1).length);obtain ⟨K1,hK1⟩:=nm (logV (X.j.log.drop i1));obtain ⟨d2,hd2⟩:=nm ((X.j.log.drop i2).length);obtain ⟨K2,hK2⟩:=nm (logV (X.j.log.drop i2));obtain ⟨jt,hjt⟩:=nm (X.j.term);obtain ⟨t1,ht1⟩:=nm ((atJ X.j.log ((i1:Int)-1)).1);obtain ⟨t2,ht2⟩:=nm ((atJ X.j.log ((i2:Int)-1)).1);obtain ⟨z1,hz1⟩:=nm ((i1:Int));obtain ⟨z2,hz2⟩:=nm ((i2:Int));simp only [←hd1,←hK1,←hd2,←hK2,←hjt,←ht1,←ht2] at ta tb ⊢;simp only [←hz1,←hz2] at ta tb ⊢;unfold rb at *
  have f7:∀ l r,A.app l r=l++r:=by
   rw [hA];intro l r;rfl
  have f0:A.lt 0 3=true∧A.lt 1 3=true∧A.lt 2 3=true∧A.lt 3 3=false∧A.add .i64 0 1=1∧A.add .i64 1 1=2∧A.add .i64 2 1=3∧A.addn 1 1=2∧A.fits 0 1=true∧A.fits 1 1=true∧A.lt 0 1=true∧A.lt 1 1=false∧A.eq 0 0=true∧A.eq 0 1=false∧A.eq 0 2=false∧A.eq 1 0=false∧A.eq 1 1=true∧A.eq 1 2=false∧A.eq 2 0=false∧A.eq 2 1=false∧A.eq 2 2=true:=by rw [hA];exact ⟨rfl,rfl,rfl,rfl,rfl,rfl,rfl,rfl,rfl,rfl,rfl,rfl,rfl,rfl,rfl,rfl,rfl,rfl,rfl,rfl,rfl⟩
  replace hA:=kH hA;replace hO:=kH hO;replace hd1:=kH hd1;replace hK1:=kH hK1;replace hd2:=kH hd2;replace hK2:=kH hK2;replace hjt:=kH hjt;replace ht1:=kH ht1;replace ht2:=kH ht2;replace hz1:=kH hz1;replace hz2:=kH hz2
  refine zad (D:=ords244) (fnO zib Tryz.func244) 26 (fun w0 own ps R hpl hR kE=>?_)
  refine zay rfl (fun o0 ho0=>?_)
  replace ho0:=kH ho0
  (conv=>arg 3;cbv)
  refine kN ?_
  conv=>arg 3;cbv
  repeat' first
   | (((with_reducible show Eng.Good _ _ (Eng.St.mk (Eng.It.code (Code.loop _)::_) _ _));refine zbq 0 4 rfl (fun Ls hag=>?_);refine hag _ _ _ _ ?_;refine kN ?_;conv=>arg 3;cbv))
   | (((with_reducible show Eng.Good _ _ (Eng.St.mk (Eng.It.again _::_) _ _));refine hag _ _ _ _ ?_;refine kN ?_;conv=>arg 3;cbv))
   | ((with_reducible refine kC ?_);(first|(refine kM [.same 0,.same 1] ta ?_;(conv=>arg 3;cbv);refine zb6 3 2 (.grow 270 10 d1 K1) ho0.out rfl rfl rfl rfl rfl (fun _=>trivial) (fun p1 A1 k1 o1 hA1 hk1 ho1=>?_);replace hA1:=kH hA1;replace hk1:=kH hk1;replace ho1:=kH ho1;refine kN ?_)|(refine kM [.same 0,.same 1] tb ?_;(conv=>arg 3;cbv);refine zb6 6 2 (.grow 270 10 d2 K2) ho1.out rfl rfl rfl rfl rfl (fun _=>trivial) (fun p2 A2 k2 o2 hA2 hk2 ho2=>?_);replace hA2:=kH hA2;replace hk2:=kH hk2;replace ho2:=kH ho2;refine kN ?_));conv=>arg 3;cbv)
   | ((with_reducible refine kG ?_);replace hA1:=hA1.out;replace hA2:=hA2.out;replace hk1:=hk1.out;replace hk2:=hk2.out;replace ho1:=ho1.out;replace ho2:=ho2.out;subst hA1 hk1 hA2 hk2 ho1 ho2;refine kR1 hR [0,1,8,2] ⟨rfl,(p1,p2),rfl⟩)
   | (simp only [*];conv=>arg 3;cbv)
   | (split<;>(rename_i hsp;try simp only [FG] at hsp)<;>conv=>arg 3;cbv)
end Go.Proofs.YtpigpajgjdcagaaGreat
