/- Parts. -/
import Derived.Test.YtpigpajgjdcagaaGreatUr1
import Derived.Test.YtpigpajgjdcagaaGreatUr12
import Derived.Test.YtpigpajgjdcagaaGreatUo
set_option linter.unusedSimpArgs false
set_option linter.unusedVariables false
set_option maxRecDepth 100000
set_option maxHeartbeats 60000000
namespace Go.Proofs.YtpigpajgjdcagaaGreat
open Go.RowKit Eng
theorem zhe :TriX Tryz.prog 235 [] ([]) (.one (.ptr 0 0 0)) (fun W'=>[PJ (⟨JSt.new,[],0⟩:JD) W']):=by
 obtain ⟨A,hA,FG⟩:=aF
 have td:=zyq
 replace hA:=kH hA
 refine zad (D:=ords235) (fnO zuy Tryz.func235) 4 (fun w0 own ps R hpl hR kE=>?_)
 refine kN ?_
 repeat' (conv=>arg 3;try cbv);first
  | ((with_reducible refine kC ?_);refine nM [] td ?_)
  | ((with_reducible refine kG ?_);refine zb7 2 3 270 10 (by rfl) (by rfl) rfl ?_;(conv=>arg 3;cbv);refine kS1 hR 2 [0,3,1] [2] () (fun W'=>⟨rfl,W',rfl⟩))
  | simp only [*]
  | (split<;>(rename_i hsp;try simp only [FG] at hsp))
theorem zs0 :TriX Tryz.prog 161 [.one (.val (.int .i64 0)),.one (.val (.int .i64 3))] ([]) (.tup [.one (.ptr 0 0 0),.one (.val (iv 0))]) (fun W'=>[PB (rb 0 3 1 0 0 0 0 0 0 0 0 0 0 0 0) (⟨JSt.new,[],0⟩:JD) W']):=by
 obtain ⟨A,hA,FG⟩:=aF
 have tj:TriX _ _ _ [] _ (fun W'=>[.obj (oJ (⟨JSt.new,[],0⟩:JD) W')]):=zhe
 change TriX _ _ _ [] _ (fun W'=>[.obj (packO (fun Wk:Nat→Prop=>[rb 0 3 1 0 0 0 0 0 0 0 0 0 0 0 0,.obj (oJ (⟨JSt.new,[],0⟩:JD) Wk)]) W')])
 obtain ⟨OX,hOX⟩:=nm (oJ (⟨JSt.new,[],0⟩:JD));simp only [←hOX] at tj ⊢;unfold rb
 have f0:A.lt 3 1=false∧A.lt 5 3=false∧A.rem 3 2=1∧A.eq 1 0=false∧A.eq 2 0=false∧A.lt 0 0=false∧A.le 3 0=false:=by rw [hA];exact ⟨rfl,rfl,rfl,rfl,rfl,rfl,rfl⟩
 change Hid _ at hA hOX
 refine zad (D:=ords161) (fnO zfn Tryz.func161) 29 (fun w0 own ps R hpl hR kE=>?_)
 refine kN ?_
 repeat' (conv=>arg 3;try cbv);first
  | ((with_reducible refine kC ?_);refine kX [] tj (fun W1=>?_);refine kN ?_)
  | ((with_reducible refine kG ?_);refine kS2 hR 1 [0] [1] W1 (fun W'=>⟨rfl,W',rfl⟩))
  | simp only [*]
  | (split<;>(rename_i hsp;try simp only [FG] at hsp))
theorem zsz :TriX Tryz.prog 161 [.one (.val (.int .i64 1)),.one (.val (.int .i64 3))] ([]) (.tup [.one (.ptr 0 0 0),.one (.val (iv 0))]) (fun W'=>[PB (rb 1 3 1 0 0 0 0 0 0 0 0 0 0 0 0) (⟨JSt.new,[],0⟩:JD) W']):=by
 obtain ⟨A,hA,FG⟩:=aF
 have tj:TriX _ _ _ [] _ (fun W'=>[.obj (oJ (⟨JSt.new,[],0⟩:JD) W')]):=zhe
 change TriX _ _ _ [] _ (fun W'=>[.obj (packO (fun Wk:Nat→Prop=>[rb 1 3 1 0 0 0 0 0 0 0 0 0 0 0 0,.obj (oJ (⟨JSt.new,[],0⟩:JD) Wk)]) W')])
 obtain ⟨OX,hOX⟩:=nm (oJ (⟨JSt.new,[],0⟩:JD));simp only [←hOX] at tj ⊢;unfold rb
 have f0:A.lt 3 1=false∧A.lt 5 3=false∧A.rem 3 2=1∧A.eq 1 0=false∧A.eq 2 0=false∧A.lt 1 0=false∧A.le 3 1=false:=by rw [hA];exact ⟨rfl,rfl,rfl,rfl,rfl,rfl,rfl⟩
 change Hid _ at hA hOX
 refine zad (D:=ords161) (fnO zfn Tryz.func161) 29 (fun w0 own ps R hpl hR kE=>?_)
 refine kN ?_
 repeat' (conv=>arg 3;try cbv);first
  | ((with_reducible refine kC ?_);refine kX [] tj (fun W1=>?_);refine kN ?_)
  | ((with_reducible refine kG ?_);refine kS2 hR 1 [0] [1] W1 (fun W'=>⟨rfl,W',rfl⟩))
  | simp only [*]
  | (split<;>(rename_i hsp;try simp only [FG] at hsp))
theorem zsy :TriX Tryz.prog 161 [.one (.val (.int .i64 2)),.one (.val (.int .i64 3))] ([]) (.tup [.one (.ptr 0 0 0),.one (.val (iv 0))]) (fun W'=>[PB (rb 2 3 1 0 0 0 0 0 0 0 0 0 0 0 0) (⟨JSt.new,[],0⟩:JD) W']):=by
 obtain ⟨A,hA,FG⟩:=aF
 have tj:TriX _ _ _ [] _ (fun W'=>[.obj (oJ (⟨JSt.new,[],0⟩:JD) W')]):=zhe
 change TriX _ _ _ [] _ (fun W'=>[.obj (packO (fun Wk:Nat→Prop=>[rb 2 3 1 0 0 0 0 0 0 0 0 0 0 0 0,.obj (oJ (⟨JSt.new,[],0⟩:JD) Wk)]) W')])
 obtain ⟨OX,hOX⟩:=nm (oJ (⟨JSt.new,[],0⟩:JD));simp only [←hOX] at tj ⊢;unfold rb
 have f0:A.lt 3 1=false∧A.lt 5 3=false∧A.rem 3 2=1∧A.eq 1 0=false∧A.eq 2 0=false∧A.lt 2 0=false∧A.le 3 2=false:=by rw [hA];exact ⟨rfl,rfl,rfl,rfl,rfl,rfl,rfl⟩
 change Hid _ at hA hOX
 refine zad (D:=ords161) (fnO zfn Tryz.func161) 29 (fun w0 own ps R hpl hR kE=>?_)
 refine kN ?_
 repeat' (conv=>arg 3;try cbv);first
  | ((with_reducible refine kC ?_);refine kX [] tj (fun W1=>?_);refine kN ?_)
  | ((with_reducible refine kG ?_);refine kS2 hR 1 [0] [1] W1 (fun W'=>⟨rfl,W',rfl⟩))
  | simp only [*]
  | (split<;>(rename_i hsp;try simp only [FG] at hsp))
theorem zsx :TriX Tryz.prog 161 [.one (.val (.int .i64 0)),.one (.val (.int .i64 1))] ([]) (.tup [.one (.ptr 0 0 0),.one (.val (iv 0))]) (fun W'=>[PB (rb 0 1 1 0 0 0 0 0 0 0 0 0 0 0 0) (⟨JSt.new,[],0⟩:JD) W']):=by
 obtain ⟨A,hA,FG⟩:=aF
 have tj:TriX _ _ _ [] _ (fun W'=>[.obj (oJ (⟨JSt.new,[],0⟩:JD) W')]):=zhe
 change TriX _ _ _ [] _ (fun W'=>[.obj (packO (fun Wk:Nat→Prop=>[rb 0 1 1 0 0 0 0 0 0 0 0 0 0 0 0,.obj (oJ (⟨JSt.new,[],0⟩:JD) Wk)]) W')])
 obtain ⟨OX,hOX⟩:=nm (oJ (⟨JSt.new,[],0⟩:JD));simp only [←hOX] at tj ⊢;unfold rb
 have f0:A.lt 1 1=false∧A.lt 5 1=false∧A.rem 1 2=1∧A.eq 1 0=false∧A.eq 2 0=false∧A.lt 0 0=false∧A.le 1 0=false:=by rw [hA];exact ⟨rfl,rfl,rfl,rfl,rfl,rfl,rfl⟩
 change Hid _ at hA hOX
 refine zad (D:=ords161) (fnO zfn Tryz.func161) 29 (fun w0 own ps R hpl hR kE=>?_)
 refine kN ?_
 repeat' (conv=>arg 3;try cbv);first
  | ((with_reducible refine kC ?_);refine kX [] tj (fun W1=>?_);refine kN ?_)
  | ((with_reducible refine kG ?_);refine kS2 hR 1 [0] [1] W1 (fun W'=>⟨rfl,W',rfl⟩))
  | simp only [*]
  | (split<;>(rename_i hsp;try simp only [FG] at hsp))
theorem zsb:Goes Tryz.prog 260:=zbe Tryz.func260 (by kernel_rfl) (by kernel_rfl)
theorem zs1 (id n ro cm vo x0 x1 x2 x3 x4 y0 y1 y2 y3 y4:Int) (X:JD) (W:Nat→Prop) (hlb:X.j.log.length≤4096):TriM Tryz.prog 260 [.one (.ptr 0 0 0)] ([rb id n ro cm vo x0 x1 x2 x3 x4 y0 y1 y2 y3 y4,.obj (oJ X W)]) (.one (.gsl 2 X.j.log.length)) ([rb id n ro cm vo x0 x1 x2 x3 x4 y0 y1 y2 y3 y4,.obj (oJ X W),.grow 270 10 X.j.log.length (logV X.j.log)]):=by
 obtain ⟨A,hA,FG⟩:=aF
 have tf:TriM _ _ _ [_,.obj (oJ X W)] _ [_,.obj (oJ X W),_]:=zly id n ro cm vo x0 x1 x2 x3 x4 y0 y1 y2 y3 y4 X W 0 (Nat.zero_le _) hlb
 simp only [List.drop_zero] at tf;obtain ⟨nl,hnl⟩:=nm (X.j.log.length);obtain ⟨LV,hLV⟩:=nm (logV X.j.log);obtain ⟨OX,hOX⟩:=nm (oJ X W);simp only [←hOX,←hnl,←hLV] at tf ⊢;unfold rb at *;change Hid _ at hA hOX hnl hLV
 refine zad (D:=ords260) (fnO zmk Tryz.func260) 4 (fun w0 own ps R hpl hR kE=>?_)
 refine kN ?_
 repeat' (conv=>arg 3;try cbv);first
  | ((with_reducible refine kC ?_);refine nM [.same 0,.same 1] tf ?_)
  | ((with_reducible refine kG ?_);refine zhd hR ⟨zmk,zaa⟩ 3 (by rfl) (by rfl) (by rfl) (by rfl) (Nat.le_succ 2) (by rfl) ⟨rfl,rfl⟩)
  | simp only [*]
  | (split<;>(rename_i hsp;try simp only [FG] at hsp))
theorem zx5 (id n ro cm vo x0 x1 x2 x3 x4 y0 y1 y2 y3 y4:Int) (X:JD) (W:Nat→Prop) (hlb:X.j.log.length≤4096):TriM Tryz.prog 260 [.one (.ptr 0 0 0)] [PB (rb id n ro cm vo x0 x1 x2 x3 x4 y0 y1 y2 y3 y4) X W] (.one (.gsl 1 X.j.log.length)) [PB (rb id n ro cm vo x0 x1 x2 x3 x4 y0 y1 y2 y3 y4) X W,.grow 270 10 X.j.log.length (logV X.j.log)] :=
 zfh zsb (by nofun) rfl fun Wk=>zs1 id n ro cm vo x0 x1 x2 x3 x4 y0 y1 y2 y3 y4 X Wk hlb
end Go.Proofs.YtpigpajgjdcagaaGreat
