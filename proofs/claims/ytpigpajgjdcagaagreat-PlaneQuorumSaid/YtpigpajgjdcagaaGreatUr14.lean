/- Parts. -/
import Derived.Test.YtpigpajgjdcagaaGreatUr9
import Derived.Test.YtpigpajgjdcagaaGreatUr12
set_option linter.unusedSimpArgs false
set_option linter.unusedVariables false
set_option maxRecDepth 100000
set_option maxHeartbeats 60000000
namespace Go.Proofs.YtpigpajgjdcagaaGreat
open Go.RowKit Eng
def ordsCA:Ords:=[(300,[],0,[0]),(3,[(0,false),(1,false),(4,false),(5,false),(6,false),(7,false),(2,true),(3,true),(8,true)],9,[1]),(4,[(0,false),(1,false),(2,true),(3,true),(4,true),(5,true),(6,false),(7,false),(8,true),(9,true),(10,true),(11,true),(12,true)],13,[0])]
theorem zgi (k:K3) (ro cm vo x0 x1 x2 x3 x4 y0 y1 y2 y3 y4:Int) (t v:Int) (lg:List (Int × EnD)) (D:List UInt8) (W:Nat→Prop) (ht:0≤t∧t<1073741824) (hlb:lg.length≤4096) (hb:D.length+300≤1000000):TriX Tryz.prog 171 [.one (.ptr 0 0 0)] ([PB (rb (s3 k 0 1 2) 3 ro cm vo x0 x1 x2 x3 x4 y0 y1 y2 y3 y4) (⟨⟨t,v,lg⟩,D,(D.length:Int)⟩:JD) W]) (.one (.gsl 1 2)) (fun W'=>[PB (rb (s3 k 0 1 2) 3 2 cm (s3 k 1 2 4) x0 x1 x2 x3 x4 y0 y1 y2 y3 y4) (⟨⟨t+1,(s3 k 0 1 2),lg⟩,D++(frameB sumN (Rec.term (t+1) (s3 k 0 1 2)).bytes),((D++(frameB sumN (Rec.term (t+1) (s3 k 0 1 2)).bytes)).length:Int)⟩:JD) W',.grow 226 9 2 [iv 1,iv (s3 k 0 1 2),iv (s3 k 1 0 0),iv (t+1),iv (lg.length:Int),iv (atJ lg ((lg.length:Int)-1)).1,iv 0,.bool false,.slice none 0 0,iv 1,iv (s3 k 0 1 2),iv (s3 k 2 2 1),iv (t+1),iv (lg.length:Int),iv (atJ lg ((lg.length:Int)-1)).1,iv 0,.bool false,.slice none 0 0],.obj (poolO [atO (.grow 270 10 0 []) (0,0),atO (.grow 270 10 0 []) (0,0)])]):=by
 obtain ⟨A,hA,FG⟩:=aF
 have hfs:=zap _ (zan (t+1) (s3 k 0 1 2))
 have ttm:∀ W,TriP _ _ _ [_,.obj (oJ (⟨⟨t,v,lg⟩,D,(D.length:Int)⟩:JD) W)] _:=fun W=>zam (s3 k 0 1 2) 3 ro cm vo x0 x1 x2 x3 x4 y0 y1 y2 y3 y4 (⟨⟨t,v,lg⟩,D,(D.length:Int)⟩:JD) W
 have trr:∀ W,TriY _ _ _ [_,.obj (oJ (⟨⟨t,v,lg⟩,D,(D.length:Int)⟩:JD) W)] _ (fun W'=>[_,.obj (oJ (⟨⟨t+1,(s3 k 0 1 2),lg⟩,D++(frameB sumN (Rec.term (t+1) (s3 k 0 1 2)).bytes),((D++(frameB sumN (Rec.term (t+1) (s3 k 0 1 2)).bytes)).length:Int)⟩:JD) W')]):=fun W=>zdj (s3 k 0 1 2) 3 ro cm vo x0 x1 x2 x3 x4 y0 y1 y2 y3 y4 t v lg D (D.length:Int) W (t+1) (s3 k 0 1 2) (by first|omega|(cases k<;>(try simp only [s3])<;>omega)) (by first|omega|(cases k<;>(try simp only [s3])<;>omega)) (by first|omega|(cases k<;>(try simp only [s3])<;>omega)) (by first|omega|(cases k<;>(try simp only [s3])<;>omega)) (Nat.le_trans (zan (t+1) (s3 k 0 1 2)) (by first|omega|(cases k<;>(try simp only [s3])<;>omega))) (by first|omega|(cases k<;>(try simp only [s3])<;>omega))
 have tto:∀ W,TriM _ _ _ [_,.obj (oJ (⟨⟨t+1,(s3 k 0 1 2),lg⟩,D++(frameB sumN (Rec.term (t+1) (s3 k 0 1 2)).bytes),((D++(frameB sumN (Rec.term (t+1) (s3 k 0 1 2)).bytes)).length:Int)⟩:JD) W),_] _ [_,.obj (oJ (⟨⟨t+1,(s3 k 0 1 2),lg⟩,D++(frameB sumN (Rec.term (t+1) (s3 k 0 1 2)).bytes),((D++(frameB sumN (Rec.term (t+1) (s3 k 0 1 2)).bytes)).length:Int)⟩:JD) W),_,_,_]:=fun W=>zq3 k 2 cm (s3 k 1 2 4) x0 x1 x2 x3 x4 y0 y1 y2 y3 y4 (⟨⟨t+1,(s3 k 0 1 2),lg⟩,D++(frameB sumN (Rec.term (t+1) (s3 k 0 1 2)).bytes),((D++(frameB sumN (Rec.term (t+1) (s3 k 0 1 2)).bytes)).length:Int)⟩:JD) W hlb
 unfold PB;obtain ⟨ln,hln⟩:=nm ((lg.length:Int));obtain ⟨jl,hjl⟩:=nm ((atJ lg ((lg.length:Int)-1)).1);obtain ⟨t1,ht1⟩:=nm (t+1);obtain ⟨OX,hOX⟩:=nm (oJ (⟨⟨t,v,lg⟩,D,(D.length:Int)⟩:JD));obtain ⟨O1,hO1⟩:=nm (oJ (⟨⟨t+1,(s3 k 0 1 2),lg⟩,D++(frameB sumN (Rec.term (t+1) (s3 k 0 1 2)).bytes),((D++(frameB sumN (Rec.term (t+1) (s3 k 0 1 2)).bytes)).length:Int)⟩:JD));simp only [←hO1] at trr tto ⊢;simp only [←hOX] at ttm trr ⊢
 try dsimp only at ttm
 try dsimp only at tto
 simp only [←hjl] at tto ⊢;simp only [←hln] at tto ⊢;simp only [←ht1] at trr tto ⊢;unfold rb at *
 have f1:A.add .i64 t 1=t1:=by
  rw [hA]
  rw [ht1];exact wrap64 (by omega) (by omega)
 have f2:A.conv .u64 (s3 k 0 1 2)=(s3 k 0 1 2):=by
  rw [hA]
  cases k<;>decide
 have f3:A.shl .i64 1 (s3 k 0 1 2)=(s3 k 1 2 4):=by
  rw [hA]
  cases k<;>decide
 have f4:A.le 0 (s3 k 0 1 2)=true:=by
  rw [hA]
  cases k<;>decide
 cases k
 all_goals dsimp only [s3,s6] at *
 all_goals
  have f0:A.eq 3 1=false:=by rw [hA];rfl
  have f1:A.le 1073741824 t=false:=gF hA (by omega)
  change Hid _ at hA hln hjl ht1 hOX hO1
  refine zad (D:=ordsCA) (fnO zmq Tryz.func171) 36 (fun w0 own ps R hpl hR kE=>?_)
  refine zah 0 rfl rfl (by nofun) (fun Wj=>?_)
  (conv=>arg 3;cbv)
  refine kN ?_
  repeat' (conv=>arg 3;try cbv);first
   | ((with_reducible refine kC ?_);(first|refine nP [.same 0,.same 1] ((ttm _)) ?_|(refine kY [.same 0,.same 1] [1] (trr _) (fun W1=>?_);refine kN ?_)|refine nM [.same 0,.same 1,.same 2] (tto _) ?_))
   | ((with_reducible refine kG ?_);refine kS1 hR 0 [1] [0,3,4] W1 (fun W'=>⟨rfl,W',rfl⟩))
   | simp only [*]
   | (split<;>(rename_i hsp;try simp only [FG] at hsp))
theorem zq9 (ro cm vo x0 x1 x2 x3 x4 y0 y1 y2 y3 y4:Int) (t v:Int) (lg:List (Int × EnD)) (D:List UInt8) (W:Nat→Prop) (ht:0≤t∧t<1073741824) (hlb:lg.length≤4096) (hb:D.length+300≤1000000):TriX Tryz.prog 171 [.one (.ptr 0 0 0)] ([PB (rb (0) (1) ro cm vo x0 x1 x2 x3 x4 y0 y1 y2 y3 y4) (⟨⟨t,v,lg⟩,D,(D.length:Int)⟩:JD) W]) (.one (.gsl 1 0)) (fun W'=>[PB (rb (0) (1) (3) cm (1) ((lg.length:Int)) x1 x2 x3 x4 (0) y1 y2 y3 y4) (⟨⟨t+1,0,lg⟩,D++(frameB sumN (Rec.term (t+1) 0).bytes),((D++(frameB sumN (Rec.term (t+1) 0).bytes)).length:Int)⟩:JD) W',.grow 226 9 0 [],.obj (poolO [])]):=by
 obtain ⟨A,hA,FG⟩:=aF
 have hfs:=zap _ (zan (t+1) 0)
 have ttm:∀ W,TriP _ _ _ [_,.obj (oJ (⟨⟨t,v,lg⟩,D,(D.length:Int)⟩:JD) W)] _:=fun W=>zam (0) (1) (ro) (cm) (vo) (x0) (x1) (x2) (x3) (x4) (y0) (y1) (y2) (y3) (y4) (⟨⟨t,v,lg⟩,D,(D.length:Int)⟩:JD) W
 have trr:∀ W,TriY _ _ _ [_,.obj (oJ (⟨⟨t,v,lg⟩,D,(D.length:Int)⟩:JD) W)] _ (fun W'=>[_,.obj (oJ (⟨⟨t+1,0,lg⟩,D++(frameB sumN (Rec.term (t+1) 0).bytes),((D++(frameB sumN (Rec.term (t+1) 0).bytes)).length:Int)⟩:JD) W')]):=fun W=>zdj (0) (1) (ro) (cm) (vo) (x0) (x1) (x2) (x3) (x4) (y0) (y1) (y2) (y3) (y4) t v lg D (D.length:Int) W (t+1) 0 (by omega) (by omega) (by omega) (by omega) (Nat.le_trans (zan (t+1) 0) (by omega)) (by omega)
 have tld:∀ W,TriM _ _ _ [_,.obj (oJ (⟨⟨t+1,0,lg⟩,D++(frameB sumN (Rec.term (t+1) 0).bytes),((D++(frameB sumN (Rec.term (t+1) 0).bytes)).length:Int)⟩:JD) W)] _ [_,.obj (oJ (⟨⟨t+1,0,lg⟩,D++(frameB sumN (Rec.term (t+1) 0).bytes),((D++(frameB sumN (Rec.term (t+1) 0).bytes)).length:Int)⟩:JD) W)]:=fun W=>zq5 (0) (2) (cm) (1) (x0) (x1) (x2) (x3) (x4) (y0) (y1) (y2) (y3) (y4) (⟨⟨t+1,0,lg⟩,D++(frameB sumN (Rec.term (t+1) 0).bytes),((D++(frameB sumN (Rec.term (t+1) 0).bytes)).length:Int)⟩:JD) W
 unfold PB;obtain ⟨ln,hln⟩:=nm ((lg.length:Int));obtain ⟨jl,hjl⟩:=nm ((atJ lg ((lg.length:Int)-1)).1);obtain ⟨t1,ht1⟩:=nm (t+1);obtain ⟨OX,hOX⟩:=nm (oJ (⟨⟨t,v,lg⟩,D,(D.length:Int)⟩:JD));obtain ⟨O1,hO1⟩:=nm (oJ (⟨⟨t+1,0,lg⟩,D++(frameB sumN (Rec.term (t+1) 0).bytes),((D++(frameB sumN (Rec.term (t+1) 0).bytes)).length:Int)⟩:JD));simp only [←hO1] at trr tld ⊢;simp only [←hOX] at ttm trr ⊢
 try dsimp only at ttm
 try dsimp only at tld
 simp only [←hln] at tld ⊢;simp only [←ht1] at trr ⊢;unfold rb at *
 have f0:A.le 1073741824 t=false:=gF hA (by omega)
 have f1:A.add .i64 t 1=t1:=by
  rw [hA]
  rw [ht1];exact wrap64 (by omega) (by omega)
 have f2:A.conv .u64 0=0:=by
  rw [hA]
  decide
 have f3:A.shl .i64 1 0=1:=by
  rw [hA]
  decide
 have f4:A.le 0 0=true:=by
  rw [hA]
  decide
 have f5:A.eq 1 1=true:=by rw [hA];rfl
 change Hid _ at hA hln hjl ht1 hOX hO1
 refine zad (D:=ordsCA) (fnO zmq Tryz.func171) 36 (fun w0 own ps R hpl hR kE=>?_)
 refine zah 0 rfl rfl (by nofun) (fun Wj=>?_)
 (conv=>arg 3;cbv)
 refine kN ?_
 repeat' (conv=>arg 3;try cbv);first
  | ((with_reducible refine kC ?_);(first|refine nP [.same 0,.same 1] ((ttm _)) ?_|(refine kY [.same 0,.same 1] [1] (trr _) (fun W1=>?_);refine kN ?_)|refine nM [.same 0,.same 1] ((tld _)) ?_))
  | ((with_reducible refine kG ?_);refine zf1 2 226 9 (by rfl) rfl ?_;(conv=>arg 3;cbv);refine zax rfl (fun o0 ho0=>?_);(conv=>arg 3;cbv);subst ho0;refine kS1 hR 0 [1] [0,3,4] W1 (fun W'=>⟨rfl,W',rfl⟩))
  | simp only [*]
  | (split<;>(rename_i hsp;try simp only [FG] at hsp))
theorem zq8 (id n ro cm vo x0 x1 x2 x3 x4 y0 y1 y2 y3 y4:Int) (rs:List Rec) (j:JSt) (h:Hist rs j) (hb:(diskB sumN rs).length≤1000000) (keep:Int) (W:Nat→Prop):TriX Tryz.prog 176 [.one (.ptr 0 0 0),.one (.val (.int .i64 keep))] ([PB (rb id n ro cm vo x0 x1 x2 x3 x4 y0 y1 y2 y3 y4) (⟨j,diskB sumN rs,((diskB sumN rs).length:Int)⟩:JD) W]) (.tup []) (fun W'=>[PB (rb id n (1) (0) vo x0 x1 x2 x3 x4 y0 y1 y2 y3 y4) (⟨j,diskB sumN rs,((diskB sumN rs).length:Int)⟩:JD) W']):=by
 obtain ⟨A,hA,FG⟩:=aF
 have tc:∀ W,TriX _ _ _ [.obj (oJ (⟨j,diskB sumN rs,((diskB sumN rs).length:Int)⟩:JD) W)] _ (fun W'=>[.obj (oJ (⟨j,diskB sumN rs,((diskB sumN rs).length:Int)⟩:JD) W')]):=fun W=>zrn rs j h hb keep W
 unfold PB;obtain ⟨OX,hOX⟩:=nm (oJ (⟨j,diskB sumN rs,((diskB sumN rs).length:Int)⟩:JD));simp only [←hOX] at tc ⊢;unfold rb;clear h hb;change Hid _ at hA hOX
 refine zad (D:=ords176) (fnO zvb Tryz.func176) 14 (fun w0 own ps R hpl hR kE=>?_)
 refine zah 0 rfl rfl (by nofun) (fun Wj=>?_)
 (conv=>arg 3;cbv)
 refine kN ?_
 repeat' (conv=>arg 3;try cbv);first
  | ((with_reducible refine kC ?_);refine kX [.same 1] ((tc _)) (fun W1=>?_);refine kN ?_)
  | (((with_reducible refine kZ ?_);refine kK 0 [1] (m:=fun Wk:Nat→Prop=>[.own 260 [.ptr 1 0 0,.val (iv id),.val (iv n),.val (iv (1)),.val (iv (0)),.val (iv vo),.val (iv x0),.val (iv x1),.val (iv x2),.val (iv x3),.val (iv x4),.val (iv y0),.val (iv y1),.val (iv y2),.val (iv y3),.val (iv y4)],.obj (OX Wk)]) W1 (fun W'=>?_);refine zfi hR [0] ([.obj (packO (fun Wk:Nat→Prop=>[.own 260 [.ptr 1 0 0,.val (iv id),.val (iv n),.val (iv (1)),.val (iv (0)),.val (iv vo),.val (iv x0),.val (iv x1),.val (iv x2),.val (iv x3),.val (iv x4),.val (iv y0),.val (iv y1),.val (iv y2),.val (iv y3),.val (iv y4)],.obj (OX Wk)]) W')]) (by rfl) (by rfl) (by rfl) (by rfl) hpl ⟨.inr rfl,trivial⟩ (by rfl) (by simp) ⟨rfl,W',rfl⟩))
  | simp only [*]
  | (split<;>(rename_i hsp;try simp only [FG] at hsp))
end Go.Proofs.YtpigpajgjdcagaaGreat
