/- Parts. -/
import Derived.Test.YtpigpajgjdcagaaGreatUr6
import Derived.Test.YtpigpajgjdcagaaGreatUr7
set_option linter.unusedSimpArgs false
set_option linter.unusedVariables false
set_option maxRecDepth 100000
set_option maxHeartbeats 60000000
namespace Go.Proofs.YtpigpajgjdcagaaGreat
open Go.RowKit Eng
theorem zn4 (k:K6) (cm vo x0 x1 x2 x3 x4 y0 y1 y2 y3 y4:Int) (X:JD) (W:Nat→Prop) (index to prev commit Z:Int) (hZ:Z=max (s6 k y1 y2 y0 y2 y0 y1) index) (hix:index≤X.j.log.length) (hlb:X.j.log.length≤4096) (hcm:0≤cm) (C:Nat→Int) (h0:∀ m:Nat,(m:Int)≤cm→C m=cm) (h1:∀ m:Nat,cm<m→(atJ X.j.log ((m-1:Nat):Int)).1≠X.j.term→C m=C (m-1)) (h2:∀ m:Nat,cm<m→(atJ X.j.log ((m-1:Nat):Int)).1=X.j.term→((m:Int)≤(s6 k Z y1 Z y0 Z y0)∨(m:Int)≤(s6 k y2 Z y2 Z y1 Z))→C m=m) (h3:∀ m:Nat,cm<m→(atJ X.j.log ((m-1:Nat):Int)).1=X.j.term→¬ (m:Int)≤(s6 k Z y1 Z y0 Z y0)∧¬ (m:Int)≤(s6 k y2 Z y2 Z y1 Z)→C m=C (m-1)):TriM Tryz.prog 257 [.one (.ptr 0 0 0),.agg [.val (iv 4),.val (iv (s6 k 1 2 0 2 0 1)),.val (iv to),.val (iv X.j.term),.val (iv index),.val (iv prev),.val (iv commit),.val (.bool true),.val (.slice none 0 0)]] ([rb (s6 k 0 0 1 1 2 2) 3 3 cm vo x0 x1 x2 x3 x4 y0 y1 y2 y3 y4,PJ X W]) (.one (.gsl 2 0)) [rb (s6 k 0 0 1 1 2 2) 3 3 (C X.j.log.length) vo (s6 k x0 x0 Z x0 Z x0) (s6 k Z x1 x1 x1 x1 Z) (s6 k x2 Z x2 Z x2 x2) x3 x4 (s6 k y0 y0 Z y0 Z y0) (s6 k Z y1 y1 y1 y1 Z) (s6 k y2 Z y2 Z y2 y2) y3 y4,PJ X W,.grow 226 9 0 [],.obj (poolO [])]:=by
 obtain ⟨A,hA,FG⟩:=aF;obtain ⟨O,hO⟩:=nm (oJ X W);change TriM _ _ _ [rb (s6 k 0 0 1 1 2 2) 3 3 cm vo x0 x1 x2 x3 x4 y0 y1 y2 y3 y4,.obj (oJ X W)] _ [rb (s6 k 0 0 1 1 2 2) 3 3 (C X.j.log.length) vo (s6 k x0 x0 Z x0 Z x0) (s6 k Z x1 x1 x1 x1 Z) (s6 k x2 Z x2 Z x2 x2) x3 x4 (s6 k y0 y0 Z y0 Z y0) (s6 k Z y1 y1 y1 y1 Z) (s6 k y2 Z y2 Z y2 y2) y3 y4,.obj (oJ X W),.grow 226 9 0 [],.obj (poolO [])];rw [←hO]
 have tt:TriP _ _ _ [_,.obj (oJ X W)] _:=zam (s6 k 0 0 1 1 2 2) 3 3 cm vo x0 x1 x2 x3 x4 y0 y1 y2 y3 y4 X W
 have tn:TriP _ _ _ [_,.obj (oJ X W)] _:=zbn (s6 k 0 0 1 1 2 2) 3 3 cm vo x0 x1 x2 x3 x4 y0 y1 y2 y3 y4 X W
 have ta:TriM _ _ _ [_,.obj (oJ X W)] _ [_,.obj (oJ X W)]:=zlz (s6 k K3.a K3.a K3.b K3.b K3.c K3.c) 3 cm vo (s6 k x0 x0 Z x0 Z x0) (s6 k Z x1 x1 x1 x1 Z) (s6 k x2 Z x2 Z x2 x2) x3 x4 (s6 k y0 y0 Z y0 Z y0) (s6 k Z y1 y1 y1 y1 Z) (s6 k y2 Z y2 Z y2 y2) y3 y4 X W hlb hcm C h0 h1 (by cases k<;>exact h2) (by cases k<;>exact h3)
 rw [←hO] at tt tn ta;obtain ⟨jt,hjt⟩:=nm (X.j.term);obtain ⟨ln,hln⟩:=nm ((X.j.log.length:Int));obtain ⟨CL,hCL⟩:=nm (C X.j.log.length);simp only [←hCL] at ta ⊢;simp only [←hjt,←hln] at tt tn ta ⊢
 have g1:A.le index ln=true:=by rw [hA,hln];exact decide_eq_true hix
 have g2:A.mx (s6 k y1 y2 y0 y2 y0 y1) index=Z:=by rw [hA,hZ];show (if index > (s6 k y1 y2 y0 y2 y0 y1) then index else (s6 k y1 y2 y0 y2 y0 y1))=_;split<;>omega
 cases k
 all_goals dsimp only [s3,s6] at *
 all_goals
  unfold rb at *
  have f1:A.eq jt jt=true:=by
   rw [hA];simp [std]
  have f0:A.eq 3 3=true:=by rw [hA];rfl
  change Hid _ at hA hO hZ h0 h1 h2 h3 hjt hln hCL
  refine zad (D:=ords257) (fnO zml Tryz.func257) 77 (fun w0 own ps R hpl hR kE=>?_)
  refine kN ?_
  repeat' (conv=>arg 3;try cbv);first
   | ((with_reducible refine kC ?_);(first|refine nP [.same 0,.same 1] tt ?_|refine nP [.same 0,.same 1] tn ?_|refine nM [.same 0,.same 1] ta ?_))
   | ((with_reducible refine kG ?_);refine zf1 4 226 9 (by rfl) rfl ?_;(conv=>arg 3;cbv);refine zax rfl (fun o0 ho0=>?_);(conv=>arg 3;cbv);subst ho0;refine kR1 hR [0,1,3,4] ⟨rfl,rfl⟩)
   | simp only [FG,f0,f1,g1,g2, *]
   | (split<;>(rename_i hsp;try simp only [FG] at hsp))
theorem zq7 (k:K6) (cm vo xx2 xx3 x3 x4 y0 y1 y2 y3 y4:Int) (X:JD) (W:Nat→Prop) (z index to prev commit:Int) (i1:Nat) (hi:(i1:Int)=max 0 (min (z-1) index)) (hi1:i1≤X.j.log.length) (hlb:X.j.log.length≤4096) (hz:-1000000≤z∧z≤1000000):TriY Tryz.prog 257 [.one (.ptr 0 0 0),.agg [.val (iv 4),.val (iv (s6 k 1 2 0 2 0 1)),.val (iv to),.val (iv X.j.term),.val (iv index),.val (iv prev),.val (iv commit),.val (.bool false),.val (.slice none 0 0)]] ([rb (s6 k 0 0 1 1 2 2) 3 3 cm vo (s6 k xx2 xx2 z xx2 z xx2) (s6 k z xx3 xx2 xx3 xx2 z) (s6 k xx3 z xx3 z xx3 xx3) x3 x4 y0 y1 y2 y3 y4,PJ X W]) (.one (.gsl 2 1)) (fun y:Nat × Nat=>[rb (s6 k 0 0 1 1 2 2) 3 3 cm vo (s6 k xx2 xx2 ((i1:Int)) xx2 ((i1:Int)) xx2) (s6 k ((i1:Int)) xx3 xx2 xx3 xx2 ((i1:Int))) (s6 k xx3 ((i1:Int)) xx3 ((i1:Int)) xx3 xx3) x3 x4 y0 y1 y2 y3 y4,PJ X W,.grow 226 9 1 [iv 3,iv (s6 k 0 0 1 1 2 2),iv (s6 k 1 2 0 2 0 1),iv X.j.term,iv (i1:Int),iv (atJ X.j.log ((i1:Int)-1)).1,iv cm,.bool false,.slice (gA y) (X.j.log.drop i1).length (gC y)],.obj (poolO [atO (.grow 270 10 ((X.j.log.drop i1).length) (logV (X.j.log.drop i1))) y])]):=by
 obtain ⟨A,hA,FG⟩:=aF;obtain ⟨O,hO⟩:=nm (oJ X W)
 change TriY _ _ _ [rb (s6 k 0 0 1 1 2 2) 3 3 cm vo (s6 k xx2 xx2 z xx2 z xx2) (s6 k z xx3 xx2 xx3 xx2 z) (s6 k xx3 z xx3 z xx3 xx3) x3 x4 y0 y1 y2 y3 y4,.obj (oJ X W)] _ (fun y:Nat × Nat=>[rb (s6 k 0 0 1 1 2 2) 3 3 cm vo (s6 k xx2 xx2 ((i1:Int)) xx2 ((i1:Int)) xx2) (s6 k ((i1:Int)) xx3 xx2 xx3 xx2 ((i1:Int))) (s6 k xx3 ((i1:Int)) xx3 ((i1:Int)) xx3 xx3) x3 x4 y0 y1 y2 y3 y4,.obj (oJ X W),.grow 226 9 1 [iv 3,iv (s6 k 0 0 1 1 2 2),iv (s6 k 1 2 0 2 0 1),iv X.j.term,iv (i1:Int),iv (atJ X.j.log ((i1:Int)-1)).1,iv cm,.bool false,.slice (gA y) (X.j.log.drop i1).length (gC y)],.obj (poolO [atO (.grow 270 10 ((X.j.log.drop i1).length) (logV (X.j.log.drop i1))) y])])
 rw [←hO]
 have tt:TriP _ _ _ [_,.obj (oJ X W)] _:=zam (s6 k 0 0 1 1 2 2) 3 3 cm vo (s6 k xx2 xx2 z xx2 z xx2) (s6 k z xx3 xx2 xx3 xx2 z) (s6 k xx3 z xx3 z xx3 xx3) x3 x4 y0 y1 y2 y3 y4 X W
 have ta:TriM _ _ _ [_,.obj (oJ X W)] _ [_,.obj (oJ X W),_]:=zhv (s6 k K3.b K3.c K3.a K3.c K3.a K3.b) (s6 k 0 0 1 1 2 2) 3 3 cm vo xx2 xx3 x3 x4 y0 y1 y2 y3 y4 X W i1 hi1 hlb
 let gg0:Int:=s6 k 0 0 1 1 2 2
 let gg1:Int:=s6 k 1 2 0 2 0 1
 cases k
 all_goals dsimp only [s3,s6] at *
 all_goals
  rw [←hO] at tt ta;obtain ⟨d,hd⟩:=nm ((X.j.log.drop i1).length);obtain ⟨KV,hKV⟩:=nm (logV (X.j.log.drop i1));obtain ⟨jt,hjt⟩:=nm (X.j.term);obtain ⟨pt,hpt⟩:=nm ((atJ X.j.log ((i1:Int)-1)).1);obtain ⟨zi,hzi⟩:=nm ((i1:Int));obtain ⟨z1,hz1⟩:=nm (z-1);obtain ⟨z2,hz2⟩:=nm (min (z-1) index);simp only [←hd,←hKV,←hjt,←hpt] at tt ta ⊢;simp only [←hzi] at tt ta ⊢
  have g1:A.sub .i64 z 1=z1:=by rw [hA,hz1];exact wrap64 (by omega) (by omega)
  have g2:A.mn z1 index=z2:=by rw [hA,hz1,hz2];show (if index<z-1 then index else z-1)=_;split<;>omega
  have g3:A.mx 0 z2=zi:=by rw [hA,hz2,hzi,hi];show (if min (z-1) index > 0 then min (z-1) index else 0)=_;split<;>omega
  unfold rb at *
  have f1:A.eq jt jt=true:=by
   rw [hA];simp [std]
  have f0:A.eq 3 3=true:=by rw [hA];rfl
  change Hid _ at hA hO hi hd hKV hjt hpt hzi hz1 hz2
  refine zad (D:=ords257) (fnO zml Tryz.func257) 77 (fun w0 own ps R hpl hR kE=>?_)
  refine zax rfl (fun o0 ho0=>?_)
  replace ho0:=kH ho0
  (conv=>arg 3;cbv)
  refine kN ?_
  repeat' (conv=>arg 3;try cbv);first
   | ((with_reducible refine kC ?_);(first|refine nP [.same 0,.same 1] tt ?_|(refine kM [.same 0,.same 1] ta ?_;(conv=>arg 3;cbv);refine zb6 4 2 (.grow 270 10 d KV) ho0.out rfl rfl rfl rfl rfl (fun _=>trivial) (fun p1 A1 k1 o1 hA1 hk1 ho1=>?_);change Hid _ at hA1 hk1 ho1;refine kN ?_)))
   | ((with_reducible refine kG ?_);refine zfz 5 1 9 [iv 3,iv gg0,iv gg1,iv jt,iv zi,iv pt,iv cm,.bool false,.slice A1 d k1] rfl rfl (by decide) rfl rfl ?_;(conv=>arg 3;cbv);replace hA1:=hA1.out;replace hk1:=hk1.out;replace ho1:=ho1.out;subst hA1 hk1 ho1;refine kR1 hR [0,1,6,2] ⟨rfl,p1,rfl⟩)
   | simp only [FG,f0,f1,g1,g2,g3, *]
   | (split<;>(rename_i hsp;try simp only [FG] at hsp))
end Go.Proofs.YtpigpajgjdcagaaGreat
