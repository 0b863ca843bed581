/- Parts. -/
import Derived.Test.YtpigpajgjdcagaaGreatUr1
set_option linter.unusedSimpArgs false
set_option linter.unusedVariables false
set_option maxRecDepth 100000
set_option maxHeartbeats 60000000
namespace Go.Proofs.YtpigpajgjdcagaaGreat
open Go.RowKit Eng
theorem zlv (k:K3) (ro cm vo xx3 x3 x4 y0 y1 y2 y3 y4:Int) (X:JD) (W:Nat→Prop) (i1 i2:Nat) (hi1:i1≤X.j.log.length) (hi2:i2≤X.j.log.length) (hlb:X.j.log.length≤4096):TriY Tryz.prog 244 [.one (.ptr 0 0 0),.one (.bnd 252 0)] ([rb (s3 k 0 1 2) 3 ro cm vo (s3 k xx3 ((i1:Int)) ((i1:Int))) (s3 k ((i1:Int)) xx3 ((i2:Int))) (s3 k ((i2:Int)) ((i2:Int)) xx3) x3 x4 y0 y1 y2 y3 y4,PJ X W]) (.one (.gsl 2 2)) (fun y:(Nat × Nat) × (Nat × Nat)=>[rb (s3 k 0 1 2) 3 ro cm vo (s3 k xx3 ((i1:Int)) ((i1:Int))) (s3 k ((i1:Int)) xx3 ((i2:Int))) (s3 k ((i2:Int)) ((i2:Int)) xx3) x3 x4 y0 y1 y2 y3 y4,PJ X W,.grow 226 9 2 [iv 3,iv (s3 k 0 1 2),iv (s3 k 1 0 0),iv X.j.term,iv (i1:Int),iv (atJ X.j.log ((i1:Int)-1)).1,iv cm,.bool false,.slice (gA y.1) (X.j.log.drop i1).length (gC y.1),iv 3,iv (s3 k 0 1 2),iv (s3 k 2 2 1),iv X.j.term,iv (i2:Int),iv (atJ X.j.log ((i2:Int)-1)).1,iv cm,.bool false,.slice (gA y.2) (X.j.log.drop i2).length (gC y.2)],.obj (poolO [atO (.grow 270 10 ((X.j.log.drop i1).length) (logV (X.j.log.drop i1))) y.1,atO (.grow 270 10 ((X.j.log.drop i2).length) (logV (X.j.log.drop i2))) y.2])]):=by
 obtain ⟨A,hA,FG⟩:=aF;obtain ⟨O,hO⟩:=nm (oJ X W)
 change TriY _ _ _ [rb (s3 k 0 1 2) 3 ro cm vo (s3 k xx3 ((i1:Int)) ((i1:Int))) (s3 k ((i1:Int)) xx3 ((i2:Int))) (s3 k ((i2:Int)) ((i2:Int)) xx3) x3 x4 y0 y1 y2 y3 y4,.obj (oJ X W)] _ (fun y:(Nat × Nat) × (Nat × Nat)=>[rb (s3 k 0 1 2) 3 ro cm vo (s3 k xx3 ((i1:Int)) ((i1:Int))) (s3 k ((i1:Int)) xx3 ((i2:Int))) (s3 k ((i2:Int)) ((i2:Int)) xx3) x3 x4 y0 y1 y2 y3 y4,.obj (oJ X W),.grow 226 9 2 [iv 3,iv (s3 k 0 1 2),iv (s3 k 1 0 0),iv X.j.term,iv (i1:Int),iv (atJ X.j.log ((i1:Int)-1)).1,iv cm,.bool false,.slice (gA y.1) (X.j.log.drop i1).length (gC y.1),iv 3,iv (s3 k 0 1 2),iv (s3 k 2 2 1),iv X.j.term,iv (i2:Int),iv (atJ X.j.log ((i2:Int)-1)).1,iv cm,.bool false,.slice (gA y.2) (X.j.log.drop i2).length (gC y.2)],.obj (poolO [atO (.grow 270 10 ((X.j.log.drop i1).length) (logV (X.j.log.drop i1))) y.1,atO (.grow 270 10 ((X.j.log.drop i2).length) (logV (X.j.log.drop i2))) y.2])])
 rw [←hO]
 have ta:TriM _ _ _ [_,.obj (oJ X W)] _ [_,.obj (oJ X W),_]:=zhv (s3 k K3.b K3.a K3.a) (s3 k 0 1 2) 3 ro cm vo (s3 k xx3 xx3 (i2:Int)) (s3 k (i2:Int) (i2:Int) xx3) x3 x4 y0 y1 y2 y3 y4 X W i1 hi1 hlb
 have tb:TriM _ _ _ [_,.obj (oJ X W)] _ [_,.obj (oJ X W),_]:=zhv (s3 k K3.c K3.c K3.b) (s3 k 0 1 2) 3 ro cm vo (s3 k xx3 (i1:Int) (i1:Int)) (s3 k (i1:Int) xx3 xx3) x3 x4 y0 y1 y2 y3 y4 X W i2 hi2 hlb
 cases k
 all_goals dsimp only [s3,s6] at *
 all_goals
  rw [←hO] at ta tb;obtain ⟨d1,hd1⟩:=nm ((X.j.log.drop i1).length);obtain ⟨K1,hK1⟩:=nm (logV (X.j.log.drop i1));obtain ⟨d2,hd2⟩:=nm ((X.j.log.drop i2).length);obtain ⟨K2,hK2⟩:=nm (logV (X.j.log.drop i2));obtain ⟨jt,hjt⟩:=nm (X.j.term);obtain ⟨t1,ht1⟩:=nm ((atJ X.j.log ((i1:Int)-1)).1);obtain ⟨t2,ht2⟩:=nm ((atJ X.j.log ((i2:Int)-1)).1);obtain ⟨z1,hz1⟩:=nm ((i1:Int));obtain ⟨z2,hz2⟩:=nm ((i2:Int));simp only [←hd1,←hK1,←hd2,←hK2,←hjt,←ht1,←ht2] at ta tb ⊢;simp only [←hz1,←hz2] at ta tb ⊢;unfold rb at *
  have f7:∀ l r,A.app l r=l++r:=by
   rw [hA];intro l r;rfl
  have f0:A.lt 0 3=true∧A.lt 1 3=true∧A.lt 2 3=true∧A.lt 3 3=false∧A.add .i64 0 1=1∧A.add .i64 1 1=2∧A.add .i64 2 1=3∧A.addn 1 1=2∧A.fits 0 1=true∧A.fits 1 1=true∧A.lt 0 1=true∧A.lt 1 1=false∧A.eq 0 0=true∧A.eq 0 1=false∧A.eq 0 2=false∧A.eq 1 0=false∧A.eq 1 1=true∧A.eq 1 2=false∧A.eq 2 0=false∧A.eq 2 1=false∧A.eq 2 2=true:=by rw [hA];exact ⟨rfl,rfl,rfl,rfl,rfl,rfl,rfl,rfl,rfl,rfl,rfl,rfl,rfl,rfl,rfl,rfl,rfl,rfl,rfl,rfl,rfl⟩
  change Hid _ at hA hO hd1 hK1 hd2 hK2 hjt ht1 ht2 hz1 hz2
  refine zad (D:=ords244) (fnO zh4 Tryz.func244) 26 (fun w0 own ps R hpl hR kE=>?_)
  refine zax rfl (fun o0 ho0=>?_)
  replace ho0:=kH ho0
  (conv=>arg 3;cbv)
  refine kN ?_
  repeat' (conv=>arg 3;try cbv);first
   | (((with_reducible refine kL ?_);refine zbo 0 4 rfl (fun Ls hag=>?_);refine hag _ _ _ _ ?_;refine kN ?_))
   | (((with_reducible refine kA ?_);refine hag _ _ _ _ ?_;refine kN ?_))
   | ((with_reducible refine kC ?_);(first|(refine kM [.same 0,.same 1] ta ?_;(conv=>arg 3;cbv);refine zb6 3 2 (.grow 270 10 d1 K1) ho0.out rfl rfl rfl rfl rfl (fun _=>trivial) (fun p1 A1 k1 o1 hA1 hk1 ho1=>?_);change Hid _ at hA1 hk1 ho1;refine kN ?_)|(refine kM [.same 0,.same 1] tb ?_;(conv=>arg 3;cbv);refine zb6 6 2 (.grow 270 10 d2 K2) ho1.out rfl rfl rfl rfl rfl (fun _=>trivial) (fun p2 A2 k2 o2 hA2 hk2 ho2=>?_);change Hid _ at hA2 hk2 ho2;refine kN ?_)))
   | ((with_reducible refine kG ?_);replace hA1:=hA1.out;replace hA2:=hA2.out;replace hk1:=hk1.out;replace hk2:=hk2.out;replace ho1:=ho1.out;replace ho2:=ho2.out;subst hA1 hk1 hA2 hk2 ho1 ho2;refine kR1 hR [0,1,8,2] ⟨rfl,(p1,p2),rfl⟩)
   | simp only [*]
   | (split<;>(rename_i hsp;try simp only [FG] at hsp))
theorem zkk (id n ro cm vo x0 x1 x2 x3 x4 y0 y1 y2 y3 y4:Int) (X:JD) (W:Nat→Prop) (to ix:Int) (ok:Bool):TriM Tryz.prog 302 [.one (.ptr 0 0 0),.one (.val (.int .i64 to)),.one (.val (.int .i64 ix)),.one (.val (.bool ok))] ([rb id n ro cm vo x0 x1 x2 x3 x4 y0 y1 y2 y3 y4,PJ X W]) (.one (.gsl 2 1)) [rb id n ro cm vo x0 x1 x2 x3 x4 y0 y1 y2 y3 y4,PJ X W,.grow 226 9 1 [iv 4,iv id,iv to,iv X.j.term,iv ix,iv 0,iv 0,.bool ok,.slice none 0 0],.obj (poolO [atO (.grow 270 10 0 []) (0,0)])]:=by
 obtain ⟨A,hA,FG⟩:=aF;obtain ⟨O,hO⟩:=nm (oJ X W);change TriM _ _ _ [rb id n ro cm vo x0 x1 x2 x3 x4 y0 y1 y2 y3 y4,.obj (oJ X W)] _ [rb id n ro cm vo x0 x1 x2 x3 x4 y0 y1 y2 y3 y4,.obj (oJ X W),.grow 226 9 1 [iv 4,iv id,iv to,iv X.j.term,iv ix,iv 0,iv 0,.bool ok,.slice none 0 0],.obj (poolO [atO (.grow 270 10 0 []) (0,0)])];rw [←hO]
 have tg:TriP _ _ _ [_,.obj (oJ X W)] _:=zhc id n ro cm vo x0 x1 x2 x3 x4 y0 y1 y2 y3 y4 X W 4 to
 rw [←hO] at tg;unfold rb at tg;obtain ⟨jv,hjv⟩:=nm (X.j.term);rw [←hjv] at tg ⊢;unfold rb;change Hid _ at hA hO hjv
 refine zad (D:=ords302) (fnO zt4 Tryz.func302) 15 (fun w0 own ps R hpl hR kE=>?_)
 refine kN ?_
 repeat' (conv=>arg 3;try cbv);first
  | ((with_reducible refine kC ?_);refine nP [.same 0,.same 1] tg ?_)
  | ((with_reducible refine kG ?_);refine zfz 3 1 9 [iv 4,iv id,iv to,iv jv,iv ix,iv 0,iv 0,.bool ok,.slice none 0 0] rfl rfl (by decide) rfl rfl ?_;(conv=>arg 3;cbv);refine zax rfl (fun o0 ho0=>?_);(conv=>arg 3;cbv);refine zf2 5 270 10 ho0 rfl rfl (fun o1 ho1=>?_);(conv=>arg 3;cbv);subst ho1;refine kR1 hR [0,1,4,5] ⟨rfl,rfl⟩)
  | simp only [*]
  | (split<;>(rename_i hsp;try simp only [FG] at hsp))
def ordsRC1:Ords:=[(300,[],0,[0]),(2,[(0,false),(2,false),(1,true),(4,false),(3,true)],5,[])]
theorem zs2 (id n ro cm vo x0 x1 x2 x3 x4 y0 y1 y2 y3 y4:Int) (X:JD) (W:Nat→Prop) (to:Int) (hlb:X.j.log.length≤4096):TriP Tryz.prog 245 [.one (.val (.int .i64 to)),.one (.ptr 2 0 0)] ([rb id n ro cm vo x0 x1 x2 x3 x4 y0 y1 y2 y3 y4,PJ X W,.own 210 [.ptr 0 0 0]]) (.agg [.val (iv 1),.val (iv id),.val (iv to),.val (iv X.j.term),.val (iv (X.j.log.length:Int)),.val (iv (atJ X.j.log ((X.j.log.length:Int)-1)).1),.val (iv 0),.val (.bool false),.val (.slice none 0 0)]):=by
 obtain ⟨A,hA,FG⟩:=aF;obtain ⟨O,hO⟩:=nm (oJ X W);change TriP _ _ _ [rb id n ro cm vo x0 x1 x2 x3 x4 y0 y1 y2 y3 y4,.obj (oJ X W),.own 210 [.ptr 0 0 0]] _;rw [←hO]
 have tg:TriP _ _ _ [_,.obj (oJ X W)] _:=zhc id n ro cm vo x0 x1 x2 x3 x4 y0 y1 y2 y3 y4 X W 1 to
 rw [←hO] at tg;unfold rb at tg
 have tn:TriP _ _ _ [_,.obj (oJ X W)] _:=zbn id n ro cm vo x0 x1 x2 x3 x4 y0 y1 y2 y3 y4 X W
 rw [←hO] at tn;unfold rb at tn
 have tl:TriP _ _ _ [_,.obj (oJ X W)] _:=zlw id n ro cm vo x0 x1 x2 x3 x4 y0 y1 y2 y3 y4 X W hlb
 rw [←hO] at tl;unfold rb at tl;obtain ⟨jt,hjt⟩:=nm (X.j.term);obtain ⟨jn,hjn⟩:=nm ((X.j.log.length:Int));obtain ⟨jl,hjl⟩:=nm ((atJ X.j.log ((X.j.log.length:Int)-1)).1);simp only [←hjl] at tl ⊢;simp only [←hjt,←hjn] at tg tn ⊢;unfold rb;change Hid _ at hA hO hjt hjn hjl
 refine zad (D:=ordsRC1) (fnO zuu Tryz.func245) 13 (fun w0 own ps R hpl hR kE=>?_)
 refine kN ?_
 repeat' (conv=>arg 3;try cbv);first
  | ((with_reducible refine kC ?_);(first|refine nP [.same 0,.same 1] tg ?_|refine nP [.same 0,.same 1] tn ?_|refine nP [.same 0,.same 1] tl ?_))
  | ((with_reducible refine kG ?_);refine kO1 hR 3 ⟨?_,by rfl⟩)
  | simp only [*]
  | (split<;>(rename_i hsp;try simp only [FG] at hsp))
 all_goals rfl
theorem zq3 (k:K3) (ro cm vo x0 x1 x2 x3 x4 y0 y1 y2 y3 y4:Int) (X:JD) (W:Nat→Prop) (hlb:X.j.log.length≤4096):TriM Tryz.prog 244 [.one (.ptr 0 0 0),.one (.clo 245 [2])] ([rb (s3 k 0 1 2) 3 ro cm vo x0 x1 x2 x3 x4 y0 y1 y2 y3 y4,PJ X W,.own 210 [.ptr 0 0 0]]) (.one (.gsl 3 2)) [rb (s3 k 0 1 2) 3 ro cm vo x0 x1 x2 x3 x4 y0 y1 y2 y3 y4,PJ X W,.own 210 [.ptr 0 0 0],.grow 226 9 2 [iv 1,iv (s3 k 0 1 2),iv (s3 k 1 0 0),iv X.j.term,iv (X.j.log.length:Int),iv (atJ X.j.log ((X.j.log.length:Int)-1)).1,iv 0,.bool false,.slice none 0 0,iv 1,iv (s3 k 0 1 2),iv (s3 k 2 2 1),iv X.j.term,iv (X.j.log.length:Int),iv (atJ X.j.log ((X.j.log.length:Int)-1)).1,iv 0,.bool false,.slice none 0 0],.obj (poolO [atO (.grow 270 10 0 []) (0,0),atO (.grow 270 10 0 []) (0,0)])]:=by
 obtain ⟨A,hA,FG⟩:=aF;obtain ⟨O,hO⟩:=nm (oJ X W);change TriM _ _ _ [rb (s3 k 0 1 2) 3 ro cm vo x0 x1 x2 x3 x4 y0 y1 y2 y3 y4,.obj (oJ X W),.own 210 [.ptr 0 0 0]] _ [rb (s3 k 0 1 2) 3 ro cm vo x0 x1 x2 x3 x4 y0 y1 y2 y3 y4,.obj (oJ X W),.own 210 [.ptr 0 0 0],.grow 226 9 2 [iv 1,iv (s3 k 0 1 2),iv (s3 k 1 0 0),iv X.j.term,iv (X.j.log.length:Int),iv (atJ X.j.log ((X.j.log.length:Int)-1)).1,iv 0,.bool false,.slice none 0 0,iv 1,iv (s3 k 0 1 2),iv (s3 k 2 2 1),iv X.j.term,iv (X.j.log.length:Int),iv (atJ X.j.log ((X.j.log.length:Int)-1)).1,iv 0,.bool false,.slice none 0 0],.obj (poolO [atO (.grow 270 10 0 []) (0,0),atO (.grow 270 10 0 []) (0,0)])];rw [←hO]
 have tc:∀ to:Int,TriP _ _ _ [_,.obj (oJ X W),_] _:=fun to=>zs2 (s3 k 0 1 2) 3 ro cm vo x0 x1 x2 x3 x4 y0 y1 y2 y3 y4 X W to hlb
 cases k
 all_goals dsimp only [s3,s6] at *
 all_goals
  rw [←hO] at tc;obtain ⟨jt,hjt⟩:=nm (X.j.term);obtain ⟨jn,hjn⟩:=nm ((X.j.log.length:Int));obtain ⟨jl,hjl⟩:=nm ((atJ X.j.log ((X.j.log.length:Int)-1)).1);simp only [←hjl] at tc ⊢;simp only [←hjt,←hjn] at tc ⊢;unfold rb at *
  have f7:∀ l r,A.app l r=l++r:=by
   rw [hA];intro l r;rfl
  have f0:A.lt 0 3=true∧A.lt 1 3=true∧A.lt 2 3=true∧A.lt 3 3=false∧A.add .i64 0 1=1∧A.add .i64 1 1=2∧A.add .i64 2 1=3∧A.addn 1 1=2∧A.fits 0 1=true∧A.fits 1 1=true∧A.lt 0 1=true∧A.lt 1 1=false∧A.eq 0 0=true∧A.eq 0 1=false∧A.eq 0 2=false∧A.eq 1 0=false∧A.eq 1 1=true∧A.eq 1 2=false∧A.eq 2 0=false∧A.eq 2 1=false∧A.eq 2 2=true:=by rw [hA];exact ⟨rfl,rfl,rfl,rfl,rfl,rfl,rfl,rfl,rfl,rfl,rfl,rfl,rfl,rfl,rfl,rfl,rfl,rfl,rfl,rfl,rfl⟩
  change Hid _ at hA hO hjt hjn hjl
  refine zad (D:=ords244) (fnO zh4 Tryz.func244) 26 (fun w0 own ps R hpl hR kE=>?_)
  refine kN ?_
  repeat' (conv=>arg 3;try cbv);first
   | (((with_reducible refine kL ?_);refine zbo 0 4 rfl (fun Ls hag=>?_);refine hag _ _ _ _ ?_;refine kN ?_))
   | (((with_reducible refine kA ?_);refine hag _ _ _ _ ?_;refine kN ?_))
   | ((with_reducible refine kC ?_);refine nP [.same 0,.same 1,.same 2] ((tc _)) ?_)
   | ((with_reducible refine kG ?_);refine zax rfl (fun o0 ho0=>?_);(conv=>arg 3;cbv);refine zf2 7 270 10 ho0 rfl rfl (fun o1 ho1=>?_);(conv=>arg 3;cbv);refine zf2 7 270 10 ho1 rfl rfl (fun o2 ho2=>?_);(conv=>arg 3;cbv);subst ho2;refine kR1 hR [0,1,2,6,7] ⟨rfl,rfl⟩)
   | simp only [*]
   | (split<;>(rename_i hsp;try simp only [FG] at hsp))
theorem zsw (ro cm vo x0 x1 x2 x3 x4 y0 y1 y2 y3 y4:Int) (X:JD) (W:Nat→Prop):TriM Tryz.prog 244 [.one (.ptr 0 0 0),.one (.bnd 252 0)] ([rb (0) (1) ro cm vo x0 x1 x2 x3 x4 y0 y1 y2 y3 y4,PJ X W]) (.one (.gsl 2 0)) [rb (0) (1) ro cm vo x0 x1 x2 x3 x4 y0 y1 y2 y3 y4,PJ X W,.grow 226 9 0 [],.obj (poolO [])]:=by
 obtain ⟨A,hA,FG⟩:=aF;obtain ⟨O,hO⟩:=nm (oJ X W);change TriM _ _ _ [rb (0) (1) ro cm vo x0 x1 x2 x3 x4 y0 y1 y2 y3 y4,.obj (oJ X W)] _ [rb (0) (1) ro cm vo x0 x1 x2 x3 x4 y0 y1 y2 y3 y4,.obj (oJ X W),.grow 226 9 0 [],.obj (poolO [])];rw [←hO];unfold rb
 have f0:A.lt 0 3=true∧A.lt 1 3=true∧A.lt 2 3=true∧A.lt 3 3=false∧A.add .i64 0 1=1∧A.add .i64 1 1=2∧A.add .i64 2 1=3:=by rw [hA];exact ⟨rfl,rfl,rfl,rfl,rfl,rfl,rfl⟩
 have f7:∀ l r,A.app l r=l++r:=by
  rw [hA];intro l r;rfl
 have f8:A.addn 1 1=2∧A.fits 0 1=true∧A.fits 1 1=true∧A.lt 0 1=true∧A.lt 1 1=false∧A.eq 0 0=true∧A.eq 0 1=false∧A.eq 1 0=false∧A.eq 1 1=true:=by rw [hA];exact ⟨rfl,rfl,rfl,rfl,rfl,rfl,rfl,rfl,rfl⟩
 change Hid _ at hA hO
 refine zad (D:=ords244) (fnO zh4 Tryz.func244) 26 (fun w0 own ps R hpl hR kE=>?_)
 refine kN ?_
 repeat' (conv=>arg 3;try cbv);first
  | (((with_reducible refine kL ?_);refine zbo 0 2 rfl (fun Ls hag=>?_);refine hag _ _ _ _ ?_;refine kN ?_))
  | (((with_reducible refine kA ?_);refine hag _ _ _ _ ?_;refine kN ?_))
  | ((with_reducible refine kG ?_);refine zf1 4 226 9 (by rfl) rfl ?_;(conv=>arg 3;cbv);refine zax rfl (fun o0 ho0=>?_);(conv=>arg 3;cbv);subst ho0;refine kR1 hR [0,1,2,3] ⟨rfl,rfl⟩)
  | simp only [*]
  | (split<;>(rename_i hsp;try simp only [FG] at hsp))
def ordsRL:Ords:=[(300,[],0,[0]),(4,[(0,false),(1,false),(2,false),(3,false),(4,false),(6,false),(7,false),(10,false),(11,false),(5,true),(8,true),(9,true),(12,true)],13,[0])]
theorem zq4 (id ro cm vo x0 x1 x2 x3 x4 y0 y1 y2 y3 y4:Int) (X:JD) (W:Nat→Prop):TriM Tryz.prog 243 [.one (.ptr 0 0 0)] ([rb id (3) ro cm vo x0 x1 x2 x3 x4 y0 y1 y2 y3 y4,PJ X W]) (.tup []) [rb id (3) (3) cm vo ((X.j.log.length:Int)) ((X.j.log.length:Int)) ((X.j.log.length:Int)) x3 x4 (0) (0) (0) y3 y4,PJ X W]:=by
 obtain ⟨A,hA,FG⟩:=aF;obtain ⟨O,hO⟩:=nm (oJ X W);change TriM _ _ _ [rb id (3) ro cm vo x0 x1 x2 x3 x4 y0 y1 y2 y3 y4,.obj (oJ X W)] _ [rb id (3) (3) cm vo ((X.j.log.length:Int)) ((X.j.log.length:Int)) ((X.j.log.length:Int)) x3 x4 (0) (0) (0) y3 y4,.obj (oJ X W)];rw [←hO]
 have tn:∀ id ro cm vo x0 x1 x2 x3 x4 y0 y1 y2 y3 y4:Int,TriP _ _ _ [_,.obj (oJ X W)] _:=fun id ro cm vo x0 x1 x2 x3 x4 y0 y1 y2 y3 y4=>zbn id 3 ro cm vo x0 x1 x2 x3 x4 y0 y1 y2 y3 y4 X W
 rw [←hO] at tn;obtain ⟨jn,hjn⟩:=nm ((X.j.log.length:Int));simp only [←hjn] at tn ⊢;unfold rb at *
 have f0:A.lt 0 3=true∧A.lt 1 3=true∧A.lt 2 3=true∧A.lt 3 3=false∧A.add .i64 0 1=1∧A.add .i64 1 1=2∧A.add .i64 2 1=3:=by rw [hA];exact ⟨rfl,rfl,rfl,rfl,rfl,rfl,rfl⟩
 have f7:∀ l r,A.app l r=l++r:=by
  rw [hA];intro l r;rfl
 have f8:A.addn 1 1=2∧A.fits 0 1=true∧A.fits 1 1=true∧A.lt 0 1=true∧A.lt 1 1=false:=by rw [hA];exact ⟨rfl,rfl,rfl,rfl,rfl⟩
 change Hid _ at hA hO hjn
 refine zad (D:=ordsRL) (fnO zmo Tryz.func243) 25 (fun w0 own ps R hpl hR kE=>?_)
 refine kN ?_
 repeat' (conv=>arg 3;try cbv);first
  | (((with_reducible refine kL ?_);refine zbo 0 4 rfl (fun Ls hag=>?_);refine hag _ _ _ _ ?_;refine kN ?_))
  | (((with_reducible refine kA ?_);refine hag _ _ _ _ ?_;refine kN ?_))
  | ((with_reducible refine kC ?_);refine nP [.same 0,.same 1] ((tn _ _ _ _ _ _ _ _ _ _ _ _ _ _)) ?_)
  | ((with_reducible refine kG ?_);refine kO0 hR 2 ⟨rfl,?_⟩)
  | ((with_reducible refine kZ ?_);refine zbp hR 2 (by rfl) (by rfl) (by rfl) (Nat.le_refl 2) ⟨rfl,?_⟩)
  | simp only [*]
  | (split<;>(rename_i hsp;try simp only [FG] at hsp))
 all_goals rfl
theorem zq5 (id ro cm vo x0 x1 x2 x3 x4 y0 y1 y2 y3 y4:Int) (X:JD) (W:Nat→Prop):TriM Tryz.prog 243 [.one (.ptr 0 0 0)] ([rb id (1) ro cm vo x0 x1 x2 x3 x4 y0 y1 y2 y3 y4,PJ X W]) (.tup []) [rb id (1) (3) cm vo ((X.j.log.length:Int)) x1 x2 x3 x4 (0) y1 y2 y3 y4,PJ X W]:=by
 obtain ⟨A,hA,FG⟩:=aF;obtain ⟨O,hO⟩:=nm (oJ X W);change TriM _ _ _ [rb id (1) ro cm vo x0 x1 x2 x3 x4 y0 y1 y2 y3 y4,.obj (oJ X W)] _ [rb id (1) (3) cm vo ((X.j.log.length:Int)) x1 x2 x3 x4 (0) y1 y2 y3 y4,.obj (oJ X W)];rw [←hO]
 have tn:∀ id ro cm vo x0 x1 x2 x3 x4 y0 y1 y2 y3 y4:Int,TriP _ _ _ [_,.obj (oJ X W)] _:=fun id ro cm vo x0 x1 x2 x3 x4 y0 y1 y2 y3 y4=>zbn id 1 ro cm vo x0 x1 x2 x3 x4 y0 y1 y2 y3 y4 X W
 rw [←hO] at tn;obtain ⟨jn,hjn⟩:=nm ((X.j.log.length:Int));simp only [←hjn] at tn ⊢;unfold rb at *
 have f0:A.lt 0 3=true∧A.lt 1 3=true∧A.lt 2 3=true∧A.lt 3 3=false∧A.add .i64 0 1=1∧A.add .i64 1 1=2∧A.add .i64 2 1=3:=by rw [hA];exact ⟨rfl,rfl,rfl,rfl,rfl,rfl,rfl⟩
 have f7:∀ l r,A.app l r=l++r:=by
  rw [hA];intro l r;rfl
 have f8:A.addn 1 1=2∧A.fits 0 1=true∧A.fits 1 1=true∧A.lt 0 1=true∧A.lt 1 1=false:=by rw [hA];exact ⟨rfl,rfl,rfl,rfl,rfl⟩
 change Hid _ at hA hO hjn
 refine zad (D:=ordsRL) (fnO zmo Tryz.func243) 25 (fun w0 own ps R hpl hR kE=>?_)
 refine kN ?_
 repeat' (conv=>arg 3;try cbv);first
  | (((with_reducible refine kL ?_);refine zbo 0 2 rfl (fun Ls hag=>?_);refine hag _ _ _ _ ?_;refine kN ?_))
  | (((with_reducible refine kA ?_);refine hag _ _ _ _ ?_;refine kN ?_))
  | ((with_reducible refine kC ?_);refine nP [.same 0,.same 1] ((tn _ _ _ _ _ _ _ _ _ _ _ _ _ _)) ?_)
  | ((with_reducible refine kG ?_);refine kO0 hR 2 ⟨rfl,?_⟩)
  | ((with_reducible refine kZ ?_);refine zbp hR 2 (by rfl) (by rfl) (by rfl) (Nat.le_refl 2) ⟨rfl,?_⟩)
  | simp only [*]
  | (split<;>(rename_i hsp;try simp only [FG] at hsp))
 all_goals rfl
end Go.Proofs.YtpigpajgjdcagaaGreat
