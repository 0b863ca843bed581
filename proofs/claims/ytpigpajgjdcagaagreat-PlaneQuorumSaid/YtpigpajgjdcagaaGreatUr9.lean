/- Parts. -/
import Derived.Test.YtpigpajgjdcagaaGreatUr6
import Derived.Test.YtpigpajgjdcagaaGreatUr7
set_option linter.unusedSimpArgs false
set_option linter.unusedVariables false
set_option maxRecDepth 100000
set_option maxHeartbeats 60000000
namespace Go.Proofs.YtpigpajgjdcagaaGreat
open Go.RowKit Eng
theorem zjp (id n ro cm vo x0 x1 x2 x3 x4 y0 y1 y2 y3 y4:Int) (t v:Int) (lg:List (Int × EnD)) (D:List UInt8) (du:Int) (W:Nat→Prop) (src to index prev commit:Int) (ok:Bool) (hlb:lg.length≤4096) (h1:0≤t∧t≤1073741824) (h2:-1≤src∧src<5) (h3:v=-1∨v=src) (h4:(atJ lg ((lg.length:Int)-1)).1<prev∨prev=(atJ lg ((lg.length:Int)-1)).1∧(lg.length:Int)≤index) (hb:D.length+130≤1000000):TriX Tryz.prog 254 [.one (.ptr 0 0 0),.agg [.val (iv 1),.val (iv src),.val (iv to),.val (iv t),.val (iv index),.val (iv prev),.val (iv commit),.val (.bool ok),.val (.slice none 0 0)]] ([rb id n ro cm vo x0 x1 x2 x3 x4 y0 y1 y2 y3 y4,PJ (⟨⟨t,v,lg⟩,D,du⟩:JD) W]) (.one (.gsl 2 1)) (fun W'=>[rb id n ro cm vo x0 x1 x2 x3 x4 y0 y1 y2 y3 y4,PJ (⟨⟨t,src,lg⟩,D++(frameB sumN (Rec.term t src).bytes),((D++(frameB sumN (Rec.term t src).bytes)).length:Int)⟩:JD) W',.grow 226 9 1 [iv 2,iv id,iv src,iv t,iv 0,iv 0,iv 0,.bool true,.slice none 0 0],.obj (poolO [atO (.grow 270 10 0 []) (0,0)])]):=by
 obtain ⟨A,hA,FG⟩:=aF
 have hfs:=zap _ (zan t src)
 have tv:TriP _ _ _ [_,.obj (oJ (⟨⟨t,v,lg⟩,D,du⟩:JD) W)] _:=zsu id n ro cm vo x0 x1 x2 x3 x4 y0 y1 y2 y3 y4 (⟨⟨t,v,lg⟩,D,du⟩:JD) W
 have tn:TriP _ _ _ [_,.obj (oJ (⟨⟨t,v,lg⟩,D,du⟩:JD) W)] _:=zbn id n ro cm vo x0 x1 x2 x3 x4 y0 y1 y2 y3 y4 (⟨⟨t,v,lg⟩,D,du⟩:JD) W
 have tt:TriP _ _ _ [_,.obj (oJ (⟨⟨t,v,lg⟩,D,du⟩:JD) W)] _:=zam id n ro cm vo x0 x1 x2 x3 x4 y0 y1 y2 y3 y4 (⟨⟨t,v,lg⟩,D,du⟩:JD) W
 have tl:TriP _ _ _ [_,.obj (oJ (⟨⟨t,v,lg⟩,D,du⟩:JD) W)] _:=zlw id n ro cm vo x0 x1 x2 x3 x4 y0 y1 y2 y3 y4 (⟨⟨t,v,lg⟩,D,du⟩:JD) W hlb
 have tg:TriP _ _ _ [_,.obj (oJ (⟨⟨t,v,lg⟩,D,du⟩:JD) W)] _:=zhc id n ro cm vo x0 x1 x2 x3 x4 y0 y1 y2 y3 y4 (⟨⟨t,v,lg⟩,D,du⟩:JD) W 2 src
 have tr:TriX _ _ _ [_,.obj (oJ (⟨⟨t,v,lg⟩,D,du⟩:JD) W)] _ (fun W'=>[_,.obj (oJ (⟨⟨t,src,lg⟩,D++(frameB sumN (Rec.term t src).bytes),((D++(frameB sumN (Rec.term t src).bytes)).length:Int)⟩:JD) W')]):=zdj id n ro cm vo x0 x1 x2 x3 x4 y0 y1 y2 y3 y4 t v lg D du W t src h1 h2 (Int.le_refl _) (fun _=>h3) (Nat.le_trans (zan t src) (by omega)) (by omega)
 change TriX _ _ _ [rb id n ro cm vo x0 x1 x2 x3 x4 y0 y1 y2 y3 y4,.obj (oJ (⟨⟨t,v,lg⟩,D,du⟩:JD) W)] _ (fun W'=>[rb id n ro cm vo x0 x1 x2 x3 x4 y0 y1 y2 y3 y4,.obj (oJ (⟨⟨t,src,lg⟩,D++(frameB sumN (Rec.term t src).bytes),((D++(frameB sumN (Rec.term t src).bytes)).length:Int)⟩:JD) W'),.grow 226 9 1 [iv 2,iv id,iv src,iv t,iv 0,iv 0,iv 0,.bool true,.slice none 0 0],.obj (poolO [atO (.grow 270 10 0 []) (0,0)])])
 obtain ⟨O,hO⟩:=nm (oJ (⟨⟨t,v,lg⟩,D,du⟩:JD) W);obtain ⟨O2,hO2⟩:=nm (oJ (⟨⟨t,src,lg⟩,D++(frameB sumN (Rec.term t src).bytes),((D++(frameB sumN (Rec.term t src).bytes)).length:Int)⟩:JD));obtain ⟨ln,hln⟩:=nm ((lg.length:Int));obtain ⟨jl,hjl⟩:=nm ((atJ lg ((lg.length:Int)-1)).1);simp only [←hO2] at tr ⊢;simp only [←hO] at tv tn tt tl tg tr ⊢
 try dsimp only at tv tn tt tl tg
 simp only [←hjl] at tl h4;simp only [←hln] at tn h4
 have g1 : A.eq v (-1) = false → A.eq v src = true := by rw [hA]; intro h; have h9 : ¬ v = -1 := by simpa [std] using h
                                                         simp only [std,beq_iff_eq];exact h3.resolve_left h9
 have g2:A.lt jl prev=false→A.eq prev jl=true∧A.le ln index=true:=by
  rw [hA];intro h;have h9:¬ jl<prev:=of_decide_eq_false h
  have h8:=h4.resolve_left h9
  exact ⟨by simp only [std,beq_iff_eq];exact h8.1,decide_eq_true h8.2⟩
 have g3:A.lt jl prev=false→A.eq prev jl=true:=fun h=>(g2 h).1
 have g4:A.lt jl prev=false→A.le ln index=true:=fun h=>(g2 h).2
 unfold rb at *;clear g2
 have f0:A.eq t t=true:=by
  rw [hA];simp [std]
 change Hid _ at hA h3 h4 hO hO2 hln hjl
 refine zad (D:=ords254) (fnO zun Tryz.func254) 60 (fun w0 own ps R hpl hR kE=>?_)
 refine kN ?_
 repeat' (conv=>arg 3;try cbv);first
  | ((with_reducible refine kC ?_);(first|refine nP [.same 0,.same 1] tv ?_|refine nP [.same 0,.same 1] tn ?_|refine nP [.same 0,.same 1] tt ?_|refine nP [.same 0,.same 1] tl ?_|refine nP [.same 0,.same 1] tg ?_|(refine kX [.same 0,.same 1] tr (fun W1=>?_);refine kN ?_)))
  | ((with_reducible refine kG ?_);refine zfz 4 1 9 [iv 2,iv id,iv src,iv t,iv 0,iv 0,iv 0,.bool true,.slice none 0 0] rfl rfl (by decide) rfl rfl ?_;(conv=>arg 3;cbv);refine zax rfl (fun o0 ho0=>?_);(conv=>arg 3;cbv);refine zf2 6 270 10 ho0 rfl rfl (fun o1 ho1=>?_);(conv=>arg 3;cbv);subst ho1;refine kR1 hR [0,1,5,6] ⟨rfl,_,rfl⟩)
  | simp only [*]
  | (split<;>(rename_i hsp;try simp only [FG] at hsp))
theorem zlx (k:K6) (cm x0 x1 x2 x3 x4 y0 y1 y2 y3 y4:Int) (X:JD) (W:Nat→Prop) (to index prev commit:Int) (hlb:X.j.log.length≤4096):TriY Tryz.prog 255 [.one (.ptr 0 0 0),.agg [.val (iv 2),.val (iv (s6 k 1 2 0 2 0 1)),.val (iv to),.val (iv X.j.term),.val (iv index),.val (iv prev),.val (iv commit),.val (.bool true),.val (.slice none 0 0)]] ([rb (s6 k 0 0 1 1 2 2) 3 2 cm (s6 k 1 1 2 2 4 4) x0 x1 x2 x3 x4 y0 y1 y2 y3 y4,PJ X W]) (.one (.gsl 2 2)) (fun y:(Nat × Nat) × (Nat × Nat)=>[rb (s6 k 0 0 1 1 2 2) 3 3 cm (s6 k 3 5 3 6 5 6) ((X.j.log.length:Int)) ((X.j.log.length:Int)) ((X.j.log.length:Int)) x3 x4 0 0 0 y3 y4,PJ X W,.grow 226 9 2 [iv 3,iv (s6 k 0 0 1 1 2 2),iv (s6 k 1 1 0 0 0 0),iv X.j.term,iv (X.j.log.length:Int),iv (atJ X.j.log ((X.j.log.length:Int)-1)).1,iv cm,.bool false,.slice (gA y.1) (X.j.log.drop X.j.log.length).length (gC y.1),iv 3,iv (s6 k 0 0 1 1 2 2),iv (s6 k 2 2 2 2 1 1),iv X.j.term,iv (X.j.log.length:Int),iv (atJ X.j.log ((X.j.log.length:Int)-1)).1,iv cm,.bool false,.slice (gA y.2) (X.j.log.drop X.j.log.length).length (gC y.2)],.obj (poolO [atO (.grow 270 10 ((X.j.log.drop X.j.log.length).length) (logV (X.j.log.drop X.j.log.length))) y.1,atO (.grow 270 10 ((X.j.log.drop X.j.log.length).length) (logV (X.j.log.drop X.j.log.length))) y.2])]):=by
 obtain ⟨A,hA,FG⟩:=aF;obtain ⟨O,hO⟩:=nm (oJ X W)
 change TriY _ _ _ [rb (s6 k 0 0 1 1 2 2) 3 2 cm (s6 k 1 1 2 2 4 4) x0 x1 x2 x3 x4 y0 y1 y2 y3 y4,.obj (oJ X W)] _ (fun y:(Nat × Nat) × (Nat × Nat)=>[rb (s6 k 0 0 1 1 2 2) 3 3 cm (s6 k 3 5 3 6 5 6) ((X.j.log.length:Int)) ((X.j.log.length:Int)) ((X.j.log.length:Int)) x3 x4 0 0 0 y3 y4,.obj (oJ X W),.grow 226 9 2 [iv 3,iv (s6 k 0 0 1 1 2 2),iv (s6 k 1 1 0 0 0 0),iv X.j.term,iv (X.j.log.length:Int),iv (atJ X.j.log ((X.j.log.length:Int)-1)).1,iv cm,.bool false,.slice (gA y.1) (X.j.log.drop X.j.log.length).length (gC y.1),iv 3,iv (s6 k 0 0 1 1 2 2),iv (s6 k 2 2 2 2 1 1),iv X.j.term,iv (X.j.log.length:Int),iv (atJ X.j.log ((X.j.log.length:Int)-1)).1,iv cm,.bool false,.slice (gA y.2) (X.j.log.drop X.j.log.length).length (gC y.2)],.obj (poolO [atO (.grow 270 10 ((X.j.log.drop X.j.log.length).length) (logV (X.j.log.drop X.j.log.length))) y.1,atO (.grow 270 10 ((X.j.log.drop X.j.log.length).length) (logV (X.j.log.drop X.j.log.length))) y.2])])
 rw [←hO]
 have tt:TriP _ _ _ [_,.obj (oJ X W)] _:=zam (s6 k 0 0 1 1 2 2) 3 2 cm (s6 k 1 1 2 2 4 4) x0 x1 x2 x3 x4 y0 y1 y2 y3 y4 X W
 have tl:TriM _ _ _ [_,.obj (oJ X W)] _ [_,.obj (oJ X W)]:=zq4 (s6 k 0 0 1 1 2 2) 2 cm (s6 k 3 5 3 6 5 6) x0 x1 x2 x3 x4 y0 y1 y2 y3 y4 X W
 have tto:TriY _ _ _ [_,.obj (oJ X W)] _ (fun y:(Nat × Nat) × (Nat × Nat)=>[_,.obj (oJ X W),_,_]):=zlv (s6 k K3.a K3.a K3.b K3.b K3.c K3.c) 3 cm (s6 k 3 5 3 6 5 6) ((X.j.log.length:Int)) x3 x4 0 0 0 y3 y4 X W X.j.log.length X.j.log.length (Nat.le_refl _) (Nat.le_refl _) hlb
 rw [←hO] at tt tl tto;obtain ⟨d,hd⟩:=nm ((X.j.log.drop X.j.log.length).length);obtain ⟨KV,hKV⟩:=nm (logV (X.j.log.drop X.j.log.length));obtain ⟨jt,hjt⟩:=nm (X.j.term);obtain ⟨pt,hpt⟩:=nm ((atJ X.j.log ((X.j.log.length:Int)-1)).1);obtain ⟨ln,hln⟩:=nm ((X.j.log.length:Int));simp only [←hd,←hKV,←hjt,←hpt] at tt tl tto ⊢;simp only [←hln] at tt tl tto ⊢;unfold rb at *
 have f4:∀ l r,A.app l r=l++r:=by
  rw [hA];intro l r;rfl
 have f18:A.conv .u64 0=0:=by
  rw [hA]
  decide
 have f19:A.le 0 0=true:=by
  rw [hA]
  decide
 have f20:A.conv .u64 1=1:=by
  rw [hA]
  decide
 have f21:A.le 0 1=true:=by
  rw [hA]
  decide
 have f22:A.conv .u64 2=2:=by
  rw [hA]
  decide
 have f23:A.le 0 2=true:=by
  rw [hA]
  decide
 have f24:A.shl .i64 1 (s6 k 1 2 0 2 0 1)=(s6 k 2 4 1 4 1 2):=by
  rw [hA]
  cases k<;>decide
 have f25:A.bor .i64 (s6 k 1 1 2 2 4 4) (s6 k 2 4 1 4 1 2)=(s6 k 3 5 3 6 5 6):=by
  rw [hA]
  cases k<;>decide
 have f26:A.shr (s6 k 3 5 3 6 5 6) 0 .i64=(s6 k 3 5 3 6 5 6):=by
  rw [hA]
  cases k<;>decide
 have f27:A.band .i64 (s6 k 3 5 3 6 5 6) 1=(s6 k 1 1 1 0 1 0):=by
  rw [hA]
  cases k<;>decide
 have f28:A.shr (s6 k 3 5 3 6 5 6) 1 .i64=(s6 k 1 2 1 3 2 3):=by
  rw [hA]
  cases k<;>decide
 have f29:A.band .i64 (s6 k 1 2 1 3 2 3) 1=(s6 k 1 0 1 1 0 1):=by
  rw [hA]
  cases k<;>decide
 have f30:A.shr (s6 k 3 5 3 6 5 6) 2 .i64=(s6 k 0 1 0 1 1 1):=by
  rw [hA]
  cases k<;>decide
 have f31:A.band .i64 (s6 k 0 1 0 1 1 1) 1=(s6 k 0 1 0 1 1 1):=by
  rw [hA]
  cases k<;>decide
 cases k
 all_goals dsimp only [s3,s6] at *
 all_goals
  have f32:A.add .i64 0 0=0:=by
   rw [hA]
   decide
  have f33:A.add .i64 0 1=1:=by
   rw [hA]
   decide
  have f34:A.add .i64 1 0=1:=by
   rw [hA]
   decide
  have f35:A.add .i64 1 1=2:=by
   rw [hA]
   decide
  have f36:A.add .i64 2 0=2:=by
   rw [hA]
   decide
  have f37:A.add .i64 2 1=3:=by
   rw [hA]
   decide
  have f38:A.add .i64 3 0=3:=by
   rw [hA]
   decide
  have f39:A.add .i64 3 1=4:=by
   rw [hA]
   decide
  have f42:A.eq jt jt=true:=by
   rw [hA];simp [std]
  have f0:A.lt 0 3=true∧A.lt 1 3=true∧A.lt 2 3=true∧A.lt 3 3=false∧A.fits 0 1=true∧A.fits 1 1=true∧A.lt 0 1=true∧A.lt 1 1=false∧A.eq 0 0=true∧A.eq 0 1=false∧A.eq 0 2=false∧A.eq 1 0=false∧A.eq 1 1=true∧A.eq 1 2=false∧A.eq 2 0=false∧A.eq 2 1=false∧A.eq 2 2=true∧A.mul .i64 2 2=4∧A.le 4 3=false:=by rw [hA];exact ⟨rfl,rfl,rfl,rfl,rfl,rfl,rfl,rfl,rfl,rfl,rfl,rfl,rfl,rfl,rfl,rfl,rfl,rfl,rfl⟩
  change Hid _ at hA hO hd hKV hjt hpt hln
  refine zad (D:=ords255) (fnO zmm Tryz.func255) 64 (fun w0 own ps R hpl hR kE=>?_)
  refine kN ?_
  repeat' (conv=>arg 3;try cbv);first
   | (((with_reducible refine kL ?_);refine zbo 0 4 rfl (fun Ls hag=>?_);refine hag _ _ _ _ ?_;refine kN ?_))
   | (((with_reducible refine kA ?_);refine hag _ _ _ _ ?_;refine kN ?_))
   | ((with_reducible refine kC ?_);(first|refine nP [.same 0,.same 1] tt ?_|refine nM [.same 0,.same 1] tl ?_|(refine kY [.same 0,.same 1] [0,1] tto (fun y=>?_);obtain ⟨p1,p2⟩:=y;dsimp only;obtain ⟨A1,hA1⟩:=nm (gA p1);obtain ⟨A2,hA2⟩:=nm (gA p2);obtain ⟨k1,hk1⟩:=nm (gC p1);obtain ⟨k2,hk2⟩:=nm (gC p2);obtain ⟨o1,ho1⟩:=nm (poolO [atO (.grow 270 10 d KV) p1,atO (.grow 270 10 d KV) p2]);simp only [←hA1,←hA2,←hk1,←hk2,←ho1];change Hid _ at hA1 hA2 hk1 hk2 ho1;refine kN ?_)))
   | ((with_reducible refine kG ?_);replace hA1:=hA1.out;replace hA2:=hA2.out;replace hk1:=hk1.out;replace hk2:=hk2.out;replace ho1:=ho1.out;subst hA1 hk1 hA2 hk2 ho1;refine kR1 hR [0,1,3,4] ⟨rfl,(p1,p2),rfl⟩)
   | simp only [*]
   | (split<;>(rename_i hsp;try simp only [FG] at hsp))
theorem zq6 (id n cm vo x0 x1 x2 x3 x4 y0 y1 y2 y3 y4:Int) (X:JD) (W:Nat→Prop) (src to term index prev commit:Int) (ok:Bool):TriM Tryz.prog 255 [.one (.ptr 0 0 0),.agg [.val (iv 2),.val (iv src),.val (iv to),.val (iv term),.val (iv index),.val (iv prev),.val (iv commit),.val (.bool ok),.val (.slice none 0 0)]] ([rb id n (3) cm vo x0 x1 x2 x3 x4 y0 y1 y2 y3 y4,PJ X W]) (.one (.gsl 2 0)) [rb id n (3) cm vo x0 x1 x2 x3 x4 y0 y1 y2 y3 y4,PJ X W,.grow 226 9 0 [],.obj (poolO [])]:=by
 obtain ⟨A,hA,FG⟩:=aF;obtain ⟨O,hO⟩:=nm (oJ X W);change TriM _ _ _ [rb id n (3) cm vo x0 x1 x2 x3 x4 y0 y1 y2 y3 y4,.obj (oJ X W)] _ [rb id n (3) cm vo x0 x1 x2 x3 x4 y0 y1 y2 y3 y4,.obj (oJ X W),.grow 226 9 0 [],.obj (poolO [])];rw [←hO];unfold rb
 have f0:A.eq 3 2=false:=by rw [hA];rfl
 change Hid _ at hA hO
 refine zad (D:=ords255) (fnO zmm Tryz.func255) 64 (fun w0 own ps R hpl hR kE=>?_)
 refine kN ?_
 repeat' (conv=>arg 3;try cbv);first
  | ((with_reducible refine kG ?_);refine zf1 4 226 9 (by rfl) rfl ?_;(conv=>arg 3;cbv);refine zax rfl (fun o0 ho0=>?_);(conv=>arg 3;cbv);subst ho0;refine kR1 hR [0,1,3,4] ⟨rfl,rfl⟩)
  | simp only [*]
  | (split<;>(rename_i hsp;try simp only [FG] at hsp))
end Go.Proofs.YtpigpajgjdcagaaGreat
