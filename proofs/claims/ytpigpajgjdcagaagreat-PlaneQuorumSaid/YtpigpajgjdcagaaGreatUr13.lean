/- Parts. -/
import Derived.Test.YtpigpajgjdcagaaGreatUr9
import Derived.Test.YtpigpajgjdcagaaGreatUr10
import Derived.Test.YtpigpajgjdcagaaGreatUr11
import Derived.Test.YtpigpajgjdcagaaGreatUr12
set_option linter.unusedSimpArgs false
set_option linter.unusedVariables false
set_option maxRecDepth 100000
set_option maxHeartbeats 60000000
namespace Go.Proofs.YtpigpajgjdcagaaGreat
open Go.RowKit Eng
theorem zl0 (k:K6) (cm x0 x1 x2 x3 x4 y0 y1 y2 y3 y4:Int) (X:JD) (W:Nat→Prop) (index prev commit:Int) (a4:1≤X.j.term∧X.j.term≤1073741824) (a5:0≤index∧index≤4096) (a6:0≤prev∧prev≤X.j.term) (a7:0≤commit∧commit≤4096) (hlb:X.j.log.length≤4096):TriY Tryz.prog 175 [.one (.ptr 0 0 0),.agg [.val (iv 2),.val (iv (s6 k 1 2 0 2 0 1)),.val (iv (s6 k 0 0 1 1 2 2)),.val (iv X.j.term),.val (iv index),.val (iv prev),.val (iv commit),.val (.bool true),.val (.slice none 0 0)]] ([PB (rb (s6 k 0 0 1 1 2 2) 3 2 cm (s6 k 1 1 2 2 4 4) x0 x1 x2 x3 x4 y0 y1 y2 y3 y4) X W]) (.one (.gsl 1 2)) (fun y:(Nat→Prop) × (Nat × Nat) × (Nat × Nat)=>[PB (rb (s6 k 0 0 1 1 2 2) 3 3 cm (s6 k 3 5 3 6 5 6) ((X.j.log.length:Int)) ((X.j.log.length:Int)) ((X.j.log.length:Int)) x3 x4 0 0 0 y3 y4) X y.1,.grow 226 9 2 [iv 3,iv (s6 k 0 0 1 1 2 2),iv (s6 k 1 1 0 0 0 0),iv X.j.term,iv (X.j.log.length:Int),iv (atJ X.j.log ((X.j.log.length:Int)-1)).1,iv cm,.bool false,.slice (gA y.2.1) (X.j.log.drop X.j.log.length).length (gC y.2.1),iv 3,iv (s6 k 0 0 1 1 2 2),iv (s6 k 2 2 2 2 1 1),iv X.j.term,iv (X.j.log.length:Int),iv (atJ X.j.log ((X.j.log.length:Int)-1)).1,iv cm,.bool false,.slice (gA y.2.2) (X.j.log.drop X.j.log.length).length (gC y.2.2)],.obj (poolO [atO (.grow 270 10 ((X.j.log.drop X.j.log.length).length) (logV (X.j.log.drop X.j.log.length))) y.2.1,atO (.grow 270 10 ((X.j.log.drop X.j.log.length).length) (logV (X.j.log.drop X.j.log.length))) y.2.2])]):=by
 obtain ⟨A,hA,FG⟩:=aF
 have tpr:∀ W,TriP _ _ _ [_,.obj (oJ X W)] _:=fun W=>zjn (s6 k 0 0 1 1 2 2) 3 2 cm (s6 k 1 1 2 2 4 4) x0 x1 x2 x3 x4 y0 y1 y2 y3 y4 X W (s6 k 1 2 0 2 0 1) (s6 k 0 0 1 1 2 2) X.j.term index prev commit true (by cases k<;>decide) (by cases k<;>decide) (by cases k<;>decide) a4 a5 a6 a7
 have ttm:∀ W,TriP _ _ _ [_,.obj (oJ X W)] _:=fun W=>zam (s6 k 0 0 1 1 2 2) 3 2 cm (s6 k 1 1 2 2 4 4) x0 x1 x2 x3 x4 y0 y1 y2 y3 y4 X W
 have thv:∀ W,TriY _ _ _ [_,.obj (oJ X W)] _ (fun y:(Nat × Nat) × (Nat × Nat)=>[_,.obj (oJ X W),_,_]):=fun W=>zlx k cm x0 x1 x2 x3 x4 y0 y1 y2 y3 y4 X W (s6 k 0 0 1 1 2 2) index prev commit hlb
 cases k
 all_goals dsimp only [s3,s6] at *
 all_goals
  unfold PB;obtain ⟨d,hd⟩:=nm ((X.j.log.drop X.j.log.length).length);obtain ⟨KV,hKV⟩:=nm (logV (X.j.log.drop X.j.log.length));obtain ⟨jt,hjt⟩:=nm (X.j.term);obtain ⟨pt,hpt⟩:=nm ((atJ X.j.log ((X.j.log.length:Int)-1)).1);obtain ⟨ln,hln⟩:=nm ((X.j.log.length:Int));obtain ⟨OX,hOX⟩:=nm (oJ X);simp only [←hOX] at tpr ttm thv ⊢;simp only [←hd,←hKV,←hjt,←hpt] at tpr ttm thv ⊢;simp only [←hln] at thv ⊢;rw [←hjt] at a4 a6;unfold rb at *
  have f0:A.eq 2 1=false∧A.eq 2 2=true∧A.eq 4 1=false∧A.eq 4 2=false∧A.eq 4 3=false∧A.eq 4 4=true:=by rw [hA];exact ⟨rfl,rfl,rfl,rfl,rfl,rfl⟩
  have f1:A.lt jt jt=false:=fF hA (by omega)
  change Hid _ at hA hd hKV hjt hpt hln hOX
  refine zad (D:=ords175) (fnO zbf Tryz.func175) 41 (fun w0 own ps R hpl hR kE=>?_)
  refine zah 0 rfl rfl (by nofun) (fun Wj=>?_)
  (conv=>arg 3;cbv)
  refine kN ?_
  repeat' (conv=>arg 3;try cbv);first
   | ((with_reducible refine kC ?_);(first|refine nP [.same 0,.same 1] ((tpr _)) ?_|refine nP [.same 0,.same 1] ((ttm _)) ?_|(refine kY [.same 0,.same 1] [0,1] (thv _) (fun y=>?_);obtain ⟨p1,p2⟩:=y;(try dsimp only);obtain ⟨A1,hA1⟩:=nm (gA p1);obtain ⟨k1,hk1⟩:=nm (gC p1);obtain ⟨A2,hA2⟩:=nm (gA p2);obtain ⟨k2,hk2⟩:=nm (gC p2);obtain ⟨o1,ho1⟩:=nm (poolO [atO (.grow 270 10 d KV) p1,atO (.grow 270 10 d KV) p2]);simp only [←hA1,←hk1,←hA2,←hk2,←ho1];change Hid _ at hA1 hk1 hA2 hk2 ho1;refine kN ?_)))
   | ((with_reducible refine kG ?_);replace hA1:=hA1.out;replace hk1:=hk1.out;replace hA2:=hA2.out;replace hk2:=hk2.out;replace ho1:=ho1.out;subst hA1 hk1 hA2 hk2 ho1;refine kS1 hR 0 [1] [0,3,4] Wj (fun W'=>⟨rfl,(W',p1,p2),rfl⟩))
   | simp only [*]
   | (split<;>(rename_i hsp;try simp only [FG] at hsp))
theorem zn7 (k:K6) (cm vo x0 x1 x2 x3 x4 y0 y1 y2 y3 y4:Int) (X:JD) (W:Nat→Prop) (index prev commit:Int) (a4:1≤X.j.term∧X.j.term≤1073741824) (a5:0≤index∧index≤4096) (a6:0≤prev∧prev≤X.j.term) (a7:0≤commit∧commit≤4096) (hlb:X.j.log.length≤4096):TriX Tryz.prog 175 [.one (.ptr 0 0 0),.agg [.val (iv 2),.val (iv (s6 k 1 2 0 2 0 1)),.val (iv (s6 k 0 0 1 1 2 2)),.val (iv X.j.term),.val (iv index),.val (iv prev),.val (iv commit),.val (.bool true),.val (.slice none 0 0)]] ([PB (rb (s6 k 0 0 1 1 2 2) 3 3 cm vo x0 x1 x2 x3 x4 y0 y1 y2 y3 y4) X W]) (.one (.gsl 1 0)) (fun W'=>[PB (rb (s6 k 0 0 1 1 2 2) 3 3 cm vo x0 x1 x2 x3 x4 y0 y1 y2 y3 y4) X W',.grow 226 9 0 [],.obj (poolO [])]):=by
 obtain ⟨A,hA,FG⟩:=aF
 have tpr:∀ W,TriP _ _ _ [_,.obj (oJ X W)] _:=fun W=>zjn (s6 k 0 0 1 1 2 2) 3 3 cm vo x0 x1 x2 x3 x4 y0 y1 y2 y3 y4 X W (s6 k 1 2 0 2 0 1) (s6 k 0 0 1 1 2 2) X.j.term index prev commit true (by cases k<;>decide) (by cases k<;>decide) (by cases k<;>decide) a4 a5 a6 a7
 have ttm:∀ W,TriP _ _ _ [_,.obj (oJ X W)] _:=fun W=>zam (s6 k 0 0 1 1 2 2) 3 3 cm vo x0 x1 x2 x3 x4 y0 y1 y2 y3 y4 X W
 have thv:∀ W,TriM _ _ _ [_,.obj (oJ X W)] _ [_,.obj (oJ X W),_,_]:=fun W=>zq6 (s6 k 0 0 1 1 2 2) 3 cm vo x0 x1 x2 x3 x4 y0 y1 y2 y3 y4 X W (s6 k 1 2 0 2 0 1) (s6 k 0 0 1 1 2 2) X.j.term index prev commit true
 cases k
 all_goals dsimp only [s3,s6] at *
 all_goals
  unfold PB;obtain ⟨jt,hjt⟩:=nm (X.j.term);obtain ⟨OX,hOX⟩:=nm (oJ X);simp only [←hOX] at tpr ttm thv ⊢;simp only [←hjt] at tpr ttm thv ⊢;rw [←hjt] at a4 a6;unfold rb at *
  have f0:A.eq 2 1=false∧A.eq 2 2=true∧A.eq 4 1=false∧A.eq 4 2=false∧A.eq 4 3=false∧A.eq 4 4=true:=by rw [hA];exact ⟨rfl,rfl,rfl,rfl,rfl,rfl⟩
  have f1:A.lt jt jt=false:=fF hA (by omega)
  change Hid _ at hA hjt hOX
  refine zad (D:=ords175) (fnO zbf Tryz.func175) 41 (fun w0 own ps R hpl hR kE=>?_)
  refine zah 0 rfl rfl (by nofun) (fun Wj=>?_)
  (conv=>arg 3;cbv)
  refine kN ?_
  repeat' (conv=>arg 3;try cbv);first
   | ((with_reducible refine kC ?_);(first|refine nP [.same 0,.same 1] ((tpr _)) ?_|refine nP [.same 0,.same 1] ((ttm _)) ?_|refine nM [.same 0,.same 1] (thv _) ?_))
   | ((with_reducible refine kG ?_);refine kS1 hR 0 [1] [0,3,4] Wj (fun W'=>⟨rfl,W',rfl⟩))
   | simp only [*]
   | (split<;>(rename_i hsp;try simp only [FG] at hsp))
theorem zn8 (k:K6) (cm vo x0 x1 x2 x3 x4 y0 y1 y2 y3 y4:Int) (X:JD) (W:Nat→Prop) (index prev commit:Int) (a4:1≤X.j.term∧X.j.term≤1073741824) (a5:0≤index∧index≤4096) (a6:0≤prev∧prev≤X.j.term) (a7:0≤commit∧commit≤4096) (hlb:X.j.log.length≤4096) (Z:Int) (hZ:Z=max (s6 k y1 y2 y0 y2 y0 y1) index) (hix:index≤X.j.log.length) (hcm:0≤cm) (C:Nat→Int) (h0:∀ m:Nat,(m:Int)≤cm→C m=cm) (h1:∀ m:Nat,cm<m→(atJ X.j.log ((m-1:Nat):Int)).1≠X.j.term→C m=C (m-1)) (h2:∀ m:Nat,cm<m→(atJ X.j.log ((m-1:Nat):Int)).1=X.j.term→((m:Int)≤(s6 k Z y1 Z y0 Z y0)∨(m:Int)≤(s6 k y2 Z y2 Z y1 Z))→C m=m) (h3:∀ m:Nat,cm<m→(atJ X.j.log ((m-1:Nat):Int)).1=X.j.term→¬ (m:Int)≤(s6 k Z y1 Z y0 Z y0)∧¬ (m:Int)≤(s6 k y2 Z y2 Z y1 Z)→C m=C (m-1)):TriX Tryz.prog 175 [.one (.ptr 0 0 0),.agg [.val (iv 4),.val (iv (s6 k 1 2 0 2 0 1)),.val (iv (s6 k 0 0 1 1 2 2)),.val (iv X.j.term),.val (iv index),.val (iv prev),.val (iv commit),.val (.bool true),.val (.slice none 0 0)]] ([PB (rb (s6 k 0 0 1 1 2 2) 3 3 cm vo x0 x1 x2 x3 x4 y0 y1 y2 y3 y4) X W]) (.one (.gsl 1 0)) (fun W'=>[PB (rb (s6 k 0 0 1 1 2 2) 3 3 (C X.j.log.length) vo (s6 k x0 x0 Z x0 Z x0) (s6 k Z x1 x1 x1 x1 Z) (s6 k x2 Z x2 Z x2 x2) x3 x4 (s6 k y0 y0 Z y0 Z y0) (s6 k Z y1 y1 y1 y1 Z) (s6 k y2 Z y2 Z y2 y2) y3 y4) X W',.grow 226 9 0 [],.obj (poolO [])]):=by
 obtain ⟨A,hA,FG⟩:=aF
 have tpr:∀ W,TriP _ _ _ [_,.obj (oJ X W)] _:=fun W=>zjm (s6 k 0 0 1 1 2 2) 3 3 cm vo x0 x1 x2 x3 x4 y0 y1 y2 y3 y4 X W (s6 k 1 2 0 2 0 1) (s6 k 0 0 1 1 2 2) X.j.term index prev commit true (by cases k<;>decide) (by cases k<;>decide) (by cases k<;>decide) a4 a5 a6 a7
 have ttm:∀ W,TriP _ _ _ [_,.obj (oJ X W)] _:=fun W=>zam (s6 k 0 0 1 1 2 2) 3 3 cm vo x0 x1 x2 x3 x4 y0 y1 y2 y3 y4 X W
 have thv:∀ W,TriM _ _ _ [_,.obj (oJ X W)] _ [_,.obj (oJ X W),_,_]:=fun W=>zn4 k cm vo x0 x1 x2 x3 x4 y0 y1 y2 y3 y4 X W index (s6 k 0 0 1 1 2 2) prev commit Z hZ hix hlb hcm C h0 h1 h2 h3
 cases k
 all_goals dsimp only [s3,s6] at *
 all_goals
  unfold PB;obtain ⟨jt,hjt⟩:=nm (X.j.term);obtain ⟨CL,hCL⟩:=nm (C X.j.log.length);obtain ⟨OX,hOX⟩:=nm (oJ X);simp only [←hOX] at tpr ttm thv ⊢;simp only [←hCL] at thv ⊢;simp only [←hjt] at tpr ttm thv ⊢;rw [←hjt] at a4 a6;unfold rb at *
  have f0:A.eq 2 1=false∧A.eq 2 2=true∧A.eq 4 1=false∧A.eq 4 2=false∧A.eq 4 3=false∧A.eq 4 4=true:=by rw [hA];exact ⟨rfl,rfl,rfl,rfl,rfl,rfl⟩
  have f1:A.lt jt jt=false:=fF hA (by omega)
  change Hid _ at hA hZ h0 h1 h2 h3 hjt hCL hOX
  refine zad (D:=ords175) (fnO zbf Tryz.func175) 41 (fun w0 own ps R hpl hR kE=>?_)
  refine zah 0 rfl rfl (by nofun) (fun Wj=>?_)
  (conv=>arg 3;cbv)
  refine kN ?_
  repeat' (conv=>arg 3;try cbv);first
   | ((with_reducible refine kC ?_);(first|refine nP [.same 0,.same 1] ((tpr _)) ?_|refine nP [.same 0,.same 1] ((ttm _)) ?_|refine nM [.same 0,.same 1] (thv _) ?_))
   | ((with_reducible refine kG ?_);refine kS1 hR 0 [1] [0,3,4] Wj (fun W'=>⟨rfl,W',rfl⟩))
   | simp only [*]
   | (split<;>(rename_i hsp;try simp only [FG] at hsp))
theorem zra (k:K6) (cm vo xx2 xx3 x3 x4 y0 y1 y2 y3 y4:Int) (X:JD) (W:Nat→Prop) (index prev commit:Int) (a4:1≤X.j.term∧X.j.term≤1073741824) (a5:0≤index∧index≤4096) (a6:0≤prev∧prev≤X.j.term) (a7:0≤commit∧commit≤4096) (hlb:X.j.log.length≤4096) (z:Int) (i1:Nat) (hi:(i1:Int)=max 0 (min (z-1) index)) (hi1:i1≤X.j.log.length) (hz:-1000000≤z∧z≤1000000):TriY Tryz.prog 175 [.one (.ptr 0 0 0),.agg [.val (iv 4),.val (iv (s6 k 1 2 0 2 0 1)),.val (iv (s6 k 0 0 1 1 2 2)),.val (iv X.j.term),.val (iv index),.val (iv prev),.val (iv commit),.val (.bool false),.val (.slice none 0 0)]] ([PB (rb (s6 k 0 0 1 1 2 2) 3 3 cm vo (s6 k xx2 xx2 z xx2 z xx2) (s6 k z xx3 xx2 xx3 xx2 z) (s6 k xx3 z xx3 z xx3 xx3) x3 x4 y0 y1 y2 y3 y4) X W]) (.one (.gsl 1 1)) (fun y:(Nat→Prop) × (Nat × Nat)=>[PB (rb (s6 k 0 0 1 1 2 2) 3 3 cm vo (s6 k xx2 xx2 ((i1:Int)) xx2 ((i1:Int)) xx2) (s6 k ((i1:Int)) xx3 xx2 xx3 xx2 ((i1:Int))) (s6 k xx3 ((i1:Int)) xx3 ((i1:Int)) xx3 xx3) x3 x4 y0 y1 y2 y3 y4) X y.1,.grow 226 9 1 [iv 3,iv (s6 k 0 0 1 1 2 2),iv (s6 k 1 2 0 2 0 1),iv X.j.term,iv (i1:Int),iv (atJ X.j.log ((i1:Int)-1)).1,iv cm,.bool false,.slice (gA y.2) (X.j.log.drop i1).length (gC y.2)],.obj (poolO [atO (.grow 270 10 ((X.j.log.drop i1).length) (logV (X.j.log.drop i1))) y.2])]):=by
 obtain ⟨A,hA,FG⟩:=aF
 have tpr:∀ W,TriP _ _ _ [_,.obj (oJ X W)] _:=fun W=>zjm (s6 k 0 0 1 1 2 2) 3 3 cm vo (s6 k xx2 xx2 z xx2 z xx2) (s6 k z xx3 xx2 xx3 xx2 z) (s6 k xx3 z xx3 z xx3 xx3) x3 x4 y0 y1 y2 y3 y4 X W (s6 k 1 2 0 2 0 1) (s6 k 0 0 1 1 2 2) X.j.term index prev commit false (by cases k<;>decide) (by cases k<;>decide) (by cases k<;>decide) a4 a5 a6 a7
 have ttm:∀ W,TriP _ _ _ [_,.obj (oJ X W)] _:=fun W=>zam (s6 k 0 0 1 1 2 2) 3 3 cm vo (s6 k xx2 xx2 z xx2 z xx2) (s6 k z xx3 xx2 xx3 xx2 z) (s6 k xx3 z xx3 z xx3 xx3) x3 x4 y0 y1 y2 y3 y4 X W
 have thv:∀ W,TriY _ _ _ [_,.obj (oJ X W)] _ (fun y:Nat × Nat=>[_,.obj (oJ X W),_,_]):=fun W=>zq7 k cm vo xx2 xx3 x3 x4 y0 y1 y2 y3 y4 X W z index (s6 k 0 0 1 1 2 2) prev commit i1 hi hi1 hlb hz
 cases k
 all_goals dsimp only [s3,s6] at *
 all_goals
  unfold PB;obtain ⟨d,hd⟩:=nm ((X.j.log.drop i1).length);obtain ⟨KV,hKV⟩:=nm (logV (X.j.log.drop i1));obtain ⟨jt,hjt⟩:=nm (X.j.term);obtain ⟨pt,hpt⟩:=nm ((atJ X.j.log ((i1:Int)-1)).1);obtain ⟨zi,hzi⟩:=nm ((i1:Int));obtain ⟨OX,hOX⟩:=nm (oJ X);simp only [←hOX] at tpr ttm thv ⊢;simp only [←hd,←hKV,←hjt,←hpt] at tpr ttm thv ⊢;simp only [←hzi] at thv ⊢;rw [←hjt] at a4 a6;unfold rb at *
  have f0:A.eq 2 1=false∧A.eq 2 2=true∧A.eq 4 1=false∧A.eq 4 2=false∧A.eq 4 3=false∧A.eq 4 4=true:=by rw [hA];exact ⟨rfl,rfl,rfl,rfl,rfl,rfl⟩
  have f1:A.lt jt jt=false:=fF hA (by omega)
  change Hid _ at hA hi hd hKV hjt hpt hzi hOX
  refine zad (D:=ords175) (fnO zbf Tryz.func175) 41 (fun w0 own ps R hpl hR kE=>?_)
  refine zah 0 rfl rfl (by nofun) (fun Wj=>?_)
  (conv=>arg 3;cbv)
  refine kN ?_
  repeat' (conv=>arg 3;try cbv);first
   | ((with_reducible refine kC ?_);(first|refine nP [.same 0,.same 1] ((tpr _)) ?_|refine nP [.same 0,.same 1] ((ttm _)) ?_|(refine kY [.same 0,.same 1] [0,1] (thv _) (fun p1=>?_);(try dsimp only);obtain ⟨A1,hA1⟩:=nm (gA p1);obtain ⟨k1,hk1⟩:=nm (gC p1);obtain ⟨o1,ho1⟩:=nm (poolO [atO (.grow 270 10 d KV) p1]);simp only [←hA1,←hk1,←ho1];change Hid _ at hA1 hk1 ho1;refine kN ?_)))
   | ((with_reducible refine kG ?_);replace hA1:=hA1.out;replace hk1:=hk1.out;replace ho1:=ho1.out;subst hA1 hk1 ho1;refine kS1 hR 0 [1] [0,3,4] Wj (fun W'=>⟨rfl,(W',p1),rfl⟩))
   | simp only [*]
   | (split<;>(rename_i hsp;try simp only [FG] at hsp))
end Go.Proofs.YtpigpajgjdcagaaGreat
