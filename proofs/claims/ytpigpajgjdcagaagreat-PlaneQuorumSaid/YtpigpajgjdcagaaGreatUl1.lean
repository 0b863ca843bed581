/- Parts. -/
import Derived.Test.YtpigpajgjdcagaaGreatUt
import Derived.Test.YtpigpajgjdcagaaGreatUp1
import Derived.Test.YtpigpajgjdcagaaGreatUq4
import Derived.Test.YtpigpajgjdcagaaGreatUi
set_option linter.unusedSimpArgs false
set_option linter.unusedVariables false
set_option maxRecDepth 100000
set_option maxHeartbeats 60000000
namespace Go.Proofs.YtpigpajgjdcagaaGreat
open Go.RowKit Eng
def ones1 (x:Int):Int:=std.add .u64 (std.band .u64 (std.shr x 1 .u64) 6148914691236517205) (std.band .u64 x 6148914691236517205)
def ones2 (x:Int):Int:=std.add .u64 (std.band .u64 (std.shr x 2 .u64) 3689348814741910323) (std.band .u64 x 3689348814741910323)
def ones3 (x:Int):Int:=std.band .u64 (std.add .u64 (std.shr x 4 .u64) x) 1085102592571150095
def ones4 (x:Int):Int:=std.add .u64 x (std.shr x 8 .u64)
def ones5 (x:Int):Int:=std.add .u64 x (std.shr x 16 .u64)
def ones6 (x:Int):Int:=std.add .u64 x (std.shr x 32 .u64)
def onesP (x:Int):Int:=std.band .i64 (std.conv .i64 (ones6 (ones5 (ones4 (ones3 (ones2 (ones1 x))))))) 127
theorem zrg (x:Int):TriP Tryz.prog 200 [.one (.val (.int .u64 x))] ([]) (vI (onesP x)):=by
 obtain ⟨A,hA,FG⟩:=aF
 have f0:A.le 0 1=true∧A.le 0 2=true∧A.le 0 4=true∧A.le 0 8=true∧A.le 0 16=true∧A.le 0 32=true:=by rw [hA];exact ⟨rfl,rfl,rfl,rfl,rfl,rfl⟩
 replace hA:=kH hA
 refine zad (D:=ords200) (fnO zu5 Tryz.func200) 34 (fun w0 own ps R hpl hR kE=>?_)
 refine kN ?_
 repeat' (conv=>arg 3;try cbv);first
  | ((with_reducible refine kG ?_);refine kO1 hR 0 ⟨?_,by rfl⟩)
  | simp only [*]
  | (split<;>(rename_i hsp;try simp only [FG] at hsp))
 all_goals (first|rfl|(rw [hA.out];rfl))
theorem zyg (x:Int):TriP Tryz.prog 106 [.one (.val (.int .u64 x))] ([]) (vI (onesP x)):=by
 obtain ⟨A,hA,FG⟩:=aF;obtain ⟨OP,hOP⟩:=nm (onesP x)
 have th:=zrg x
 rw [←hOP] at th ⊢;change Hid _ at hA hOP
 refine zad (D:=ords106) (fnO zvh Tryz.func106) 7 (fun w0 own ps R hpl hR kE=>?_)
 refine kN ?_
 repeat' (conv=>arg 3;try cbv);first
  | ((with_reducible refine kC ?_);refine nP [] th ?_)
  | ((with_reducible refine kG ?_);refine kO1 hR 0 ⟨?_,by rfl⟩)
  | simp only [*]
  | (split<;>(rename_i hsp;try simp only [FG] at hsp))
 all_goals rfl
def plB (p:PlaneD) (W:Nat→Prop):List MB:=[.own 151 [.val (iv p.c.regions),.gsl 1 p.c.L.zl,.gsl 2 p.c.L.cl,.gsl 3 p.c.L.tl,.gsl 4 p.c.L.vl,.gsl 5 p.c.L.rl,.gsl 6 p.c.L.ol,.val (iv p.c.blast),.val (iv p.c.lease),.val (iv p.c.bake),.ptr 7 0 0,.val (iv p.up),.val (iv p.s.tick),.val (iv p.s.count),.gsl 8 p.s.L.tl,.gsl 9 p.s.L.cl,.val (iv p.s.proven),.val (iv p.s.evac),.val (iv p.s.low),.val (iv p.s.high)],.grow 75 1 p.c.L.zl p.c.L.zs,.grow 137 2 p.c.L.cl p.c.L.cs,.grow 143 7 p.c.L.tl p.c.L.ts,.grow 141 2 p.c.L.vl p.c.L.vs,.grow 3 1 p.c.L.rl p.c.L.rs,.grow 3 1 p.c.L.ol p.c.L.os,PQ p.q W,.grow 134 12 p.s.L.tl p.s.L.ts,.grow 167 4 p.s.L.cl p.s.L.cs]
def PP (p:PlaneD) (W:Nat→Prop):MB:=.obj (packO (plB p) W)
theorem qc2:∀ u:Fin 8,∀ i:Fin 3,std.eq (std.band .i64 (std.shr (u.val:Int) (i.val:Int) .i64) 1) 1=QuoD.upB (u.val:Int) (i.val:Int):=by decide
theorem qbh {up i:Int} (hu:0≤up∧up<8) (hi:0≤i∧i<3):std.eq (std.band .i64 (std.shr up i .i64) 1) 1=QuoD.upB up i:=by
 have:=qc2 ⟨up.toNat,by omega⟩ ⟨i.toNat,by omega⟩
 rwa [show ((up.toNat:Nat):Int)=up by omega,show ((i.toNat:Nat):Int)=i by omega] at this
structure PlOk (p:PlaneD):Prop where
 up:0≤p.up∧p.up<8
 n3:p.n≤3
 n13:p.n=3∨p.n=1∧p.up<2
 reps:p.q.reps.length=p.n
theorem zse:Goes Tryz.prog 40:=zbe Tryz.func40 (by kernel_rfl) (by kernel_rfl)
theorem zta (p:PlaneD) (W:Nat→Prop)  :TriP Tryz.prog 40 [.one (.ptr 0 0 0)] (plB p W) (vI p.up):=by
 obtain ⟨A,hA,FG⟩:=aF;unfold GenF at FG;unfold plB PQ;obtain ⟨K,hK⟩:=nm (p.c.L);obtain ⟨S,hS⟩:=nm (p.s.L);obtain ⟨OQ,hOQ⟩:=nm (packO (qB p.q) W);rw [←hK,←hS,←hOQ];change Hid _ at hA hK hS hOQ
 refine zad (D:=ords40) (fnO zy5 Tryz.func40) 6 (fun w0 own ps R hpl hR kE=>?_)
 refine kN ?_
 repeat' (conv=>arg 3;try cbv);first
  | ((with_reducible refine kG ?_);refine kO1 hR 10 ⟨?_,rfl⟩)
  | simp only [*]
  | (split<;>(rename_i hsp;try simp only [FG] at hsp))
 all_goals (first|rfl|simp_all)
theorem zyd (p:PlaneD) (W:Nat→Prop)  :TriP Tryz.prog 40 [.one (.ptr 0 0 0)] [PP p W] (vI p.up) :=
 zcz zse (fun _=>by simp [plB]) rfl rfl fun Wq=>zta p Wq
theorem zb3 (p:PlaneD) (W:Nat→Prop) (hp:PlOk p) (i:Int):TriP Tryz.prog 95 [.one (.ptr 0 0 0),.one (.val (.int .i64 i))] (plB p W) (vB (p.isUp i)):=by
 obtain ⟨A,hA,FG⟩:=aF;unfold GenF at FG;unfold plB PQ;obtain ⟨K,hK⟩:=nm (p.c.L);obtain ⟨S,hS⟩:=nm (p.s.L);obtain ⟨OQ,hOQ⟩:=nm (packO (qB p.q) W);rw [←hK,←hS,←hOQ]
 have hrl:K.rl=p.n:=by rw [hK];rfl
 obtain ⟨b,hb⟩:=nm (p.isUp i);rw [←hb];obtain ⟨b0,hb0⟩:∃ v9:Bool,v9=decide (0≤i):=⟨_,rfl⟩;obtain ⟨b1,hb1⟩:∃ v9:Bool,v9=decide (i<(p.n:Int)):=⟨_,rfl⟩;obtain ⟨b2,hb2⟩:∃ v9:Bool,v9=QuoD.upB p.up i:=⟨_,rfl⟩
 have r0:b=(b0 && b1 && b2):=by rw [hb,hb0,hb1,hb2];rfl
 have g0:A.le 0 i=b0:=by rw [hA,hb0];rfl
 have g1:A.lt i (A.len K.rl)=b1:=by rw [hA,hrl,hb1];rfl
 have g2:b0=true→b1=true→A.eq (A.band .i64 (A.shr p.up i .i64) 1) 1=b2:=by
  intro h0 h1;rw [hb0] at h0;rw [hb1] at h1;have:=of_decide_eq_true h0;have:=of_decide_eq_true h1;have:=hp.n3;rw [hA,hb2];exact qbh hp.up (by omega)
 clear hb hb0 hb1 hb2 hrl;rw [r0];change Hid _ at hA hK hS hOQ
 refine zad (D:=ords95) (fnO zyu Tryz.func95) 25 (fun w0 own ps R hpl hR kE=>?_)
 refine kN ?_
 repeat' (conv=>arg 3;try cbv);first
  | ((with_reducible refine kG ?_);refine kO1 hR 10 ⟨?_,rfl⟩)
  | simp only [*]
  | (split<;>(rename_i hsp;try simp only [FG] at hsp))
 all_goals (first|rfl|(clear hR hpl;cases b0<;>cases b1<;>cases b2<;>first|rfl|(simp_all;done)))
theorem conv8:∀ u:Fin 8,std.conv .u64 (u.val:Int)=u.val:=by decide
theorem zsi {up:Int} (hu:0≤up∧up<8):std.conv .u64 up=up:=by
 have:=conv8 ⟨up.toNat,by omega⟩
 rwa [show ((up.toNat:Nat):Int)=up by omega] at this
theorem onesR3:∀ u:Fin 8,std.lt (std.len 3) (std.mul .i64 2 (onesP (u.val:Int)))=decide (3<2 * ((List.range 3).filter fun i=>u.val.testBit i).length):=by decide +kernel
theorem onesR1:∀ u:Fin 2,std.lt (std.len 1) (std.mul .i64 2 (onesP (u.val:Int)))=decide (1<2 * ((List.range 1).filter fun i=>u.val.testBit i).length):=by decide +kernel
theorem qc1 (p:PlaneD):p.ups=((List.range p.n).filter fun i=>p.up.toNat.testBit i).length:=by
 unfold PlaneD.ups
 refine congrArg List.length (List.filter_congr fun i hi=>?_)
 have hi':=List.mem_range.1 hi
 unfold PlaneD.isUp QuoD.upB
 rw [decide_eq_true (show (0:Int)≤(i:Int) by omega),decide_eq_true (show (i:Int)<(p.n:Int) by omega)]
 simp
theorem zrw {p:PlaneD} (hp:PlOk p):std.lt (std.len p.n) (std.mul .i64 2 (onesP p.up))=p.ready:=by
 unfold PlaneD.ready;rw [qc1]
 have hu:=hp.up
 rcases hp.n13 with h|⟨h,h2⟩
 ·have:=onesR3 ⟨p.up.toNat,by omega⟩
  rw [h]
  rwa [show ((p.up.toNat:Nat):Int)=p.up by omega] at this
 ·have:=onesR1 ⟨p.up.toNat,by omega⟩
  rw [h]
  rwa [show ((p.up.toNat:Nat):Int)=p.up by omega] at this
theorem zlc:Goes Tryz.prog 51:=zbe Tryz.func51 (by kernel_rfl) (by kernel_rfl)
theorem zcy (p:PlaneD) (W:Nat→Prop) (hp:PlOk p) :TriP Tryz.prog 51 [.one (.ptr 0 0 0)] (plB p W) (vB p.ready):=by
 obtain ⟨A,hA,FG⟩:=aF;unfold GenF at FG;unfold plB PQ;obtain ⟨K,hK⟩:=nm (p.c.L);obtain ⟨S,hS⟩:=nm (p.s.L);obtain ⟨OQ,hOQ⟩:=nm (packO (qB p.q) W);rw [←hK,←hS,←hOQ]
 have hrl:K.rl=p.n:=by rw [hK];rfl
 obtain ⟨b,hb⟩:=nm (p.ready);obtain ⟨k,hk⟩:=nm (onesP p.up)
 have th:TriP Tryz.prog 106 [.one (.val (.int .u64 p.up))] [] (vI k):=by rw [hk];exact zyg _
 rw [←hb]
 have g0:A.conv .u64 p.up=p.up:=by rw [hA];exact zsi hp.up
 have g1:A.lt (A.len K.rl) (A.mul .i64 2 k)=b:=by rw [hA,hrl,hb,hk];exact zrw hp
 clear hrl;change Hid _ at hA hK hS hOQ
 refine zad (D:=ords51) (fnO zy1 Tryz.func51) 16 (fun w0 own ps R hpl hR kE=>?_)
 refine kN ?_
 repeat' (conv=>arg 3;try cbv);first
  | ((with_reducible refine kC ?_);refine nP [] th ?_)
  | ((with_reducible refine kG ?_);refine kO1 hR 10 ⟨?_,rfl⟩)
  | simp only [*]
  | (split<;>(rename_i hsp;try simp only [FG] at hsp))
 all_goals (first|rfl|simp_all)
theorem zhw (p:PlaneD) (W:Nat→Prop) (hp:PlOk p) :TriP Tryz.prog 51 [.one (.ptr 0 0 0)] [PP p W] (vB p.ready) :=
 zcz zlc (fun _=>by simp [plB]) rfl rfl fun Wq=>zcy p Wq hp
end Go.Proofs.YtpigpajgjdcagaaGreat
