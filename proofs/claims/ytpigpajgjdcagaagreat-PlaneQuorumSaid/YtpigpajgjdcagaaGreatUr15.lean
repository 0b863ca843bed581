/- Parts. -/
import Derived.Test.YtpigpajgjdcagaaGreatUr9
import Derived.Test.YtpigpajgjdcagaaGreatUr12
set_option linter.unusedSimpArgs false
set_option linter.unusedVariables false
set_option maxRecDepth 100000
set_option maxHeartbeats 60000000
namespace Go.Proofs.YtpigpajgjdcagaaGreat
open Go.RowKit Eng
def ordsPR:Ords:=[(300,[],0,[0]),(3,[(0,false),(1,false),(2,false),(3,false),(4,false),(6,false),(5,true),(7,true),(8,true)],9,[1])]
theorem ze6 (k:K3) (cm vo xx2 x3 x4 y0 y1 y2 y3 y4:Int) (t v:Int) (lg:List (Int × EnD)) (D:List UInt8) (W:Nat→Prop) (e:EnD) (tsh:ShapeOk e) (h6:∀ x∈e.list,I6 x) (ht:1≤t∧t≤1073741824) (hlast:(atJ lg ((lg.length:Int)-1)).1≤t) (hlen:lg.length<4096) (hb:D.length+300≤1000000) (i1 i2:Nat) (hi1:i1≤lg.length) (hi2:i2≤lg.length) (hcm:0≤cm) (C:Nat→Int) (h0:∀ m:Nat,(m:Int)≤cm→C m=cm) (h1:∀ m:Nat,cm<m→(atJ (lg++[(t,e)]) ((m-1:Nat):Int)).1≠t→C m=C (m-1)) (h2:∀ m:Nat,cm<m→(atJ (lg++[(t,e)]) ((m-1:Nat):Int)).1=t→((m:Int)≤(s3 k y1 y0 y0)∨(m:Int)≤(s3 k y2 y2 y1))→C m=m) (h3:∀ m:Nat,cm<m→(atJ (lg++[(t,e)]) ((m-1:Nat):Int)).1=t→¬ (m:Int)≤(s3 k y1 y0 y0)∧¬ (m:Int)≤(s3 k y2 y2 y1)→C m=C (m-1)):TriY Tryz.prog 172 [.one (.ptr 0 0 0),enS e] ([PB (rb (s3 k 0 1 2) 3 3 cm vo (s3 k xx2 ((i1:Int)) ((i1:Int))) (s3 k ((i1:Int)) xx2 ((i2:Int))) (s3 k ((i2:Int)) ((i2:Int)) xx2) x3 x4 y0 y1 y2 y3 y4) (⟨⟨t,v,lg⟩,D,(D.length:Int)⟩:JD) W]) (.tup [.one (.gsl 1 2),.one (.val (iv 0))]) (fun y:(Nat→Prop) × (Nat × Nat) × (Nat × Nat)=>[PB (rb (s3 k 0 1 2) 3 3 (C (lg++[(t,e)]).length) vo (s3 k xx2 ((i1:Int)) ((i1:Int))) (s3 k ((i1:Int)) xx2 ((i2:Int))) (s3 k ((i2:Int)) ((i2:Int)) xx2) x3 x4 y0 y1 y2 y3 y4) (⟨⟨t,v,lg++[(t,e)]⟩,D++(frameB sumN (Rec.ent t e).bytes),((D++(frameB sumN (Rec.ent t e).bytes)).length:Int)⟩:JD) y.1,.grow 226 9 2 [iv 3,iv (s3 k 0 1 2),iv (s3 k 1 0 0),iv t,iv (i1:Int),iv (atJ (lg++[(t,e)]) ((i1:Int)-1)).1,iv (C (lg++[(t,e)]).length),.bool false,.slice (gA y.2.1) ((lg++[(t,e)]).drop i1).length (gC y.2.1),iv 3,iv (s3 k 0 1 2),iv (s3 k 2 2 1),iv t,iv (i2:Int),iv (atJ (lg++[(t,e)]) ((i2:Int)-1)).1,iv (C (lg++[(t,e)]).length),.bool false,.slice (gA y.2.2) ((lg++[(t,e)]).drop i2).length (gC y.2.2)],.obj (poolO [atO (.grow 270 10 (((lg++[(t,e)]).drop i1).length) (logV ((lg++[(t,e)]).drop i1))) y.2.1,atO (.grow 270 10 (((lg++[(t,e)]).drop i2).length) (logV ((lg++[(t,e)]).drop i2))) y.2.2])]):=by
 obtain ⟨A,hA,FG⟩:=aF
 have hfs:=zap _ (zcj (t,e))
 have ttm:∀ W,TriP _ _ _ [_,.obj (oJ (⟨⟨t,v,lg⟩,D,(D.length:Int)⟩:JD) W)] _:=fun W=>zam (s3 k 0 1 2) 3 3 cm vo (s3 k xx2 ((i1:Int)) ((i1:Int))) (s3 k ((i1:Int)) xx2 ((i2:Int))) (s3 k ((i2:Int)) ((i2:Int)) xx2) x3 x4 y0 y1 y2 y3 y4 (⟨⟨t,v,lg⟩,D,(D.length:Int)⟩:JD) W
 have tap:∀ W,TriY _ _ _ [.obj (oJ (⟨⟨t,v,lg⟩,D,(D.length:Int)⟩:JD) W)] _ (fun W'=>[.obj (oJ (⟨⟨t,v,lg++[(t,e)]⟩,D++(frameB sumN (Rec.ent t e).bytes),(D.length:Int)⟩:JD) W')]):=fun W=>ze8 t v lg D (D.length:Int) t e tsh h6 ht (Int.le_refl _) hlast hlen (Nat.le_trans (zcj (t,e)) (by omega)) (by dsimp only at hfs;omega) W
 have tsy:∀ W,TriX _ _ _ [.obj (oJ (⟨⟨t,v,lg++[(t,e)]⟩,D++(frameB sumN (Rec.ent t e).bytes),(D.length:Int)⟩:JD) W)] _ (fun W'=>[.obj (oJ (⟨⟨t,v,lg++[(t,e)]⟩,D++(frameB sumN (Rec.ent t e).bytes),((D++(frameB sumN (Rec.ent t e).bytes)).length:Int)⟩:JD) W')]):=fun W=>zfk t v (lg++[(t,e)]) (D++(frameB sumN (Rec.ent t e).bytes)) (D.length:Int) W
 have tad:∀ W,TriM _ _ _ [_,.obj (oJ (⟨⟨t,v,lg++[(t,e)]⟩,D++(frameB sumN (Rec.ent t e).bytes),((D++(frameB sumN (Rec.ent t e).bytes)).length:Int)⟩:JD) W)] _ [_,.obj (oJ (⟨⟨t,v,lg++[(t,e)]⟩,D++(frameB sumN (Rec.ent t e).bytes),((D++(frameB sumN (Rec.ent t e).bytes)).length:Int)⟩:JD) W)]:=fun W=>zlz k 3 cm vo (s3 k xx2 ((i1:Int)) ((i1:Int))) (s3 k ((i1:Int)) xx2 ((i2:Int))) (s3 k ((i2:Int)) ((i2:Int)) xx2) x3 x4 y0 y1 y2 y3 y4 (⟨⟨t,v,lg++[(t,e)]⟩,D++(frameB sumN (Rec.ent t e).bytes),((D++(frameB sumN (Rec.ent t e).bytes)).length:Int)⟩:JD) W (by simp only [List.length_append,List.length_singleton];omega) hcm C h0 h1 (by cases k<;>exact h2) (by cases k<;>exact h3)
 have tto:∀ W,TriY _ _ _ [_,.obj (oJ (⟨⟨t,v,lg++[(t,e)]⟩,D++(frameB sumN (Rec.ent t e).bytes),((D++(frameB sumN (Rec.ent t e).bytes)).length:Int)⟩:JD) W)] _ (fun y:(Nat × Nat) × (Nat × Nat)=>[_,.obj (oJ (⟨⟨t,v,lg++[(t,e)]⟩,D++(frameB sumN (Rec.ent t e).bytes),((D++(frameB sumN (Rec.ent t e).bytes)).length:Int)⟩:JD) W),_,_]):=fun W=>zlv k 3 (C (lg++[(t,e)]).length) vo xx2 x3 x4 y0 y1 y2 y3 y4 (⟨⟨t,v,lg++[(t,e)]⟩,D++(frameB sumN (Rec.ent t e).bytes),((D++(frameB sumN (Rec.ent t e).bytes)).length:Int)⟩:JD) W i1 i2 (by simp only [List.length_append,List.length_singleton];omega) (by simp only [List.length_append,List.length_singleton];omega) (by simp only [List.length_append,List.length_singleton];omega)
 cases k
 all_goals dsimp only [s3,s6] at *
 all_goals
  unfold PB;obtain ⟨d1,hd1⟩:=nm (((lg++[(t,e)]).drop i1).length);obtain ⟨K1,hK1⟩:=nm (logV ((lg++[(t,e)]).drop i1));obtain ⟨d2,hd2⟩:=nm (((lg++[(t,e)]).drop i2).length);obtain ⟨K2,hK2⟩:=nm (logV ((lg++[(t,e)]).drop i2));obtain ⟨t1,ht1⟩:=nm ((atJ (lg++[(t,e)]) ((i1:Int)-1)).1);obtain ⟨t2,ht2⟩:=nm ((atJ (lg++[(t,e)]) ((i2:Int)-1)).1);obtain ⟨CL,hCL⟩:=nm (C (lg++[(t,e)]).length);obtain ⟨z1,hz1⟩:=nm ((i1:Int));obtain ⟨z2,hz2⟩:=nm ((i2:Int));obtain ⟨OX,hOX⟩:=nm (oJ (⟨⟨t,v,lg⟩,D,(D.length:Int)⟩:JD));obtain ⟨OM,hOM⟩:=nm (oJ (⟨⟨t,v,lg++[(t,e)]⟩,D++(frameB sumN (Rec.ent t e).bytes),(D.length:Int)⟩:JD));obtain ⟨O1,hO1⟩:=nm (oJ (⟨⟨t,v,lg++[(t,e)]⟩,D++(frameB sumN (Rec.ent t e).bytes),((D++(frameB sumN (Rec.ent t e).bytes)).length:Int)⟩:JD));simp only [←hO1] at tsy tad tto ⊢;simp only [←hOM] at tap tsy;simp only [←hOX] at ttm tap ⊢
  try dsimp only at ttm
  try dsimp only at tto
  simp only [←hCL] at tad tto ⊢;simp only [←hd1,←hK1,←hd2,←hK2,←ht1,←ht2] at tto ⊢;simp only [←hz1,←hz2] at ttm tad tto ⊢;clear h0 h1 h2 h3;obtain ⟨kd,tk,tn,cl,ot,ep,wl,wh,nn⟩:=e;unfold rb at *
  have f0:A.eq 3 3=true∧A.eq 0 0=true:=by rw [hA];exact ⟨rfl,rfl⟩
  change Hid _ at hA hd1 hK1 hd2 hK2 ht1 ht2 hCL hz1 hz2 hOX hOM hO1
  refine zad (D:=ordsPR) (fnO zmp Tryz.func172) 32 (fun w0 own ps R hpl hR kE=>?_)
  refine zah 0 rfl rfl (by nofun) (fun Wj=>?_)
  (conv=>arg 3;cbv)
  refine kN ?_
  repeat' (conv=>arg 3;try cbv);first
   | ((with_reducible refine kC ?_);(first|refine nP [.same 0,.same 1] ((ttm _)) ?_|(refine kY [.same 1] [1] (tap _) (fun W1=>?_);refine kN ?_)|(refine kX [.same 1] ((tsy _)) (fun W1=>?_);refine kN ?_)|refine nM [.same 0,.same 1] ((tad _)) ?_|(refine kY [.same 0,.same 1] [0,1] (tto _) (fun y=>?_);obtain ⟨p1,p2⟩:=y;(try dsimp only);obtain ⟨A1,hA1⟩:=nm (gA p1);obtain ⟨k1,hk1⟩:=nm (gC p1);obtain ⟨A2,hA2⟩:=nm (gA p2);obtain ⟨k2,hk2⟩:=nm (gC p2);obtain ⟨o1,ho1⟩:=nm (poolO [atO (.grow 270 10 d1 K1) p1,atO (.grow 270 10 d2 K2) p2]);simp only [←hA1,←hk1,←hA2,←hk2,←ho1];change Hid _ at hA1 hk1 hA2 hk2 ho1;refine kN ?_)))
   | ((with_reducible refine kG ?_);replace hA1:=hA1.out;replace hk1:=hk1.out;replace hA2:=hA2.out;replace hk2:=hk2.out;replace ho1:=ho1.out;subst hA1 hk1 hA2 hk2 ho1;refine kS2 hR 0 [1] [0,3,4] W1 (fun W'=>⟨rfl,(W',p1,p2),rfl⟩))
   | simp only [*]
   | (split<;>(rename_i hsp;try simp only [FG] at hsp))
theorem zn3 (cm vo x0 x1 x2 x3 x4 y0 y1 y2 y3 y4:Int) (t v:Int) (lg:List (Int × EnD)) (D:List UInt8) (W:Nat→Prop) (e:EnD) (tsh:ShapeOk e) (h6:∀ x∈e.list,I6 x) (ht:1≤t∧t≤1073741824) (hlast:(atJ lg ((lg.length:Int)-1)).1≤t) (hlen:lg.length<4096) (hb:D.length+300≤1000000) (hcm:0≤cm) (C:Nat→Int) (h0:∀ m:Nat,(m:Int)≤cm→C m=cm) (h1:∀ m:Nat,cm<m→(atJ (lg++[(t,e)]) ((m-1:Nat):Int)).1≠t→C m=C (m-1)) (h2:∀ m:Nat,cm<m→(atJ (lg++[(t,e)]) ((m-1:Nat):Int)).1=t→C m=m):TriX Tryz.prog 172 [.one (.ptr 0 0 0),enS e] ([PB (rb (0) (1) (3) cm vo x0 x1 x2 x3 x4 y0 y1 y2 y3 y4) (⟨⟨t,v,lg⟩,D,(D.length:Int)⟩:JD) W]) (.tup [.one (.gsl 1 0),.one (.val (iv 0))]) (fun W'=>[PB (rb (0) (1) (3) (C (lg++[(t,e)]).length) vo x0 x1 x2 x3 x4 y0 y1 y2 y3 y4) (⟨⟨t,v,lg++[(t,e)]⟩,D++(frameB sumN (Rec.ent t e).bytes),((D++(frameB sumN (Rec.ent t e).bytes)).length:Int)⟩:JD) W',.grow 226 9 0 [],.obj (poolO [])]):=by
 obtain ⟨A,hA,FG⟩:=aF
 have hfs:=zap _ (zcj (t,e))
 have ttm:∀ W,TriP _ _ _ [_,.obj (oJ (⟨⟨t,v,lg⟩,D,(D.length:Int)⟩:JD) W)] _:=fun W=>zam (0) (1) (3) (cm) (vo) (x0) (x1) (x2) (x3) (x4) (y0) (y1) (y2) (y3) (y4) (⟨⟨t,v,lg⟩,D,(D.length:Int)⟩:JD) W
 have tap:∀ W,TriY _ _ _ [.obj (oJ (⟨⟨t,v,lg⟩,D,(D.length:Int)⟩:JD) W)] _ (fun W'=>[.obj (oJ (⟨⟨t,v,lg++[(t,e)]⟩,D++(frameB sumN (Rec.ent t e).bytes),(D.length:Int)⟩:JD) W')]):=fun W=>ze8 t v lg D (D.length:Int) t e tsh h6 ht (Int.le_refl _) hlast hlen (Nat.le_trans (zcj (t,e)) (by omega)) (by dsimp only at hfs;omega) W
 have tsy:∀ W,TriX _ _ _ [.obj (oJ (⟨⟨t,v,lg++[(t,e)]⟩,D++(frameB sumN (Rec.ent t e).bytes),(D.length:Int)⟩:JD) W)] _ (fun W'=>[.obj (oJ (⟨⟨t,v,lg++[(t,e)]⟩,D++(frameB sumN (Rec.ent t e).bytes),((D++(frameB sumN (Rec.ent t e).bytes)).length:Int)⟩:JD) W')]):=fun W=>zfk t v (lg++[(t,e)]) (D++(frameB sumN (Rec.ent t e).bytes)) (D.length:Int) W
 have tad:∀ W,TriM _ _ _ [_,.obj (oJ (⟨⟨t,v,lg++[(t,e)]⟩,D++(frameB sumN (Rec.ent t e).bytes),((D++(frameB sumN (Rec.ent t e).bytes)).length:Int)⟩:JD) W)] _ [_,.obj (oJ (⟨⟨t,v,lg++[(t,e)]⟩,D++(frameB sumN (Rec.ent t e).bytes),((D++(frameB sumN (Rec.ent t e).bytes)).length:Int)⟩:JD) W)]:=fun W=>zs3 (3) (cm) (vo) (x0) (x1) (x2) (x3) (x4) (y0) (y1) (y2) (y3) (y4) (⟨⟨t,v,lg++[(t,e)]⟩,D++(frameB sumN (Rec.ent t e).bytes),((D++(frameB sumN (Rec.ent t e).bytes)).length:Int)⟩:JD) W (by simp only [List.length_append,List.length_singleton];omega) hcm C h0 h1 h2
 have tto:∀ W,TriM _ _ _ [_,.obj (oJ (⟨⟨t,v,lg++[(t,e)]⟩,D++(frameB sumN (Rec.ent t e).bytes),((D++(frameB sumN (Rec.ent t e).bytes)).length:Int)⟩:JD) W)] _ [_,.obj (oJ (⟨⟨t,v,lg++[(t,e)]⟩,D++(frameB sumN (Rec.ent t e).bytes),((D++(frameB sumN (Rec.ent t e).bytes)).length:Int)⟩:JD) W),_,_]:=fun W=>zsw (3) (C (lg++[(t,e)]).length) (vo) (x0) (x1) (x2) (x3) (x4) (y0) (y1) (y2) (y3) (y4) (⟨⟨t,v,lg++[(t,e)]⟩,D++(frameB sumN (Rec.ent t e).bytes),((D++(frameB sumN (Rec.ent t e).bytes)).length:Int)⟩:JD) W
 unfold PB;obtain ⟨CL,hCL⟩:=nm (C (lg++[(t,e)]).length);obtain ⟨OX,hOX⟩:=nm (oJ (⟨⟨t,v,lg⟩,D,(D.length:Int)⟩:JD));obtain ⟨OM,hOM⟩:=nm (oJ (⟨⟨t,v,lg++[(t,e)]⟩,D++(frameB sumN (Rec.ent t e).bytes),(D.length:Int)⟩:JD));obtain ⟨O1,hO1⟩:=nm (oJ (⟨⟨t,v,lg++[(t,e)]⟩,D++(frameB sumN (Rec.ent t e).bytes),((D++(frameB sumN (Rec.ent t e).bytes)).length:Int)⟩:JD));simp only [←hO1] at tsy tad tto ⊢;simp only [←hOM] at tap tsy;simp only [←hOX] at ttm tap ⊢
 try dsimp only at ttm
 try dsimp only at tto
 simp only [←hCL] at tad tto ⊢;clear h0 h1 h2;obtain ⟨kd,tk,tn,cl,ot,ep,wl,wh,nn⟩:=e;unfold rb at *
 have f0:A.eq 3 3=true∧A.eq 0 0=true:=by rw [hA];exact ⟨rfl,rfl⟩
 change Hid _ at hA hCL hOX hOM hO1
 refine zad (D:=ordsPR) (fnO zmp Tryz.func172) 32 (fun w0 own ps R hpl hR kE=>?_)
 refine zah 0 rfl rfl (by nofun) (fun Wj=>?_)
 (conv=>arg 3;cbv)
 refine kN ?_
 repeat' (conv=>arg 3;try cbv);first
  | ((with_reducible refine kC ?_);(first|refine nP [.same 0,.same 1] ((ttm _)) ?_|(refine kY [.same 1] [1] (tap _) (fun W1=>?_);refine kN ?_)|(refine kX [.same 1] ((tsy _)) (fun W1=>?_);refine kN ?_)|refine nM [.same 0,.same 1] ((tad _)) ?_|refine nM [.same 0,.same 1] (tto _) ?_))
  | ((with_reducible refine kG ?_);refine kS2 hR 0 [1] [0,3,4] W1 (fun W'=>⟨rfl,W',rfl⟩))
  | simp only [*]
  | (split<;>(rename_i hsp;try simp only [FG] at hsp))
theorem zr1 (id n ro cm vo x0 x1 x2 x3 x4 y0 y1 y2 y3 y4:Int) (X:JD) (W:Nat→Prop):TriP Tryz.prog 269 [.one (.ptr 0 0 0)] [PB (rb id n ro cm vo x0 x1 x2 x3 x4 y0 y1 y2 y3 y4) X W] (vI (ro)) :=
 zcz (zlu id n ro cm vo x0 x1 x2 x3 x4 y0 y1 y2 y3 y4 X W).1 (by nofun) rfl rfl fun Wk=>zlu id n ro cm vo x0 x1 x2 x3 x4 y0 y1 y2 y3 y4 X Wk
theorem zm0 (id n ro cm vo x0 x1 x2 x3 x4 y0 y1 y2 y3 y4:Int) (X:JD) (W:Nat→Prop):TriP Tryz.prog 259 [.one (.ptr 0 0 0)] [PB (rb id n ro cm vo x0 x1 x2 x3 x4 y0 y1 y2 y3 y4) X W] (vI (cm)) :=
 zcz (zhu id n ro cm vo x0 x1 x2 x3 x4 y0 y1 y2 y3 y4 X W).1 (by nofun) rfl rfl fun Wk=>zhu id n ro cm vo x0 x1 x2 x3 x4 y0 y1 y2 y3 y4 X Wk
theorem zr0 (id n ro cm vo x0 x1 x2 x3 x4 y0 y1 y2 y3 y4:Int) (X:JD) (W:Nat→Prop):TriP Tryz.prog 241 [.one (.ptr 0 0 0)] [PB (rb id n ro cm vo x0 x1 x2 x3 x4 y0 y1 y2 y3 y4) X W] (vI (X.j.term)) :=
 zcz (zam id n ro cm vo x0 x1 x2 x3 x4 y0 y1 y2 y3 y4 X W).1 (by nofun) rfl rfl fun Wk=>zam id n ro cm vo x0 x1 x2 x3 x4 y0 y1 y2 y3 y4 X Wk
end Go.Proofs.YtpigpajgjdcagaaGreat
