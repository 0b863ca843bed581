/- Parts. -/
import Derived.Test.YtpigpajgjdcagaaGreatUj3
import Derived.Test.YtpigpajgjdcagaaGreatUo
import Derived.Test.YtpigpajgjdcagaaGreatUh
set_option linter.unusedSimpArgs false
set_option linter.unusedVariables false
set_option maxRecDepth 100000
set_option maxHeartbeats 60000000
namespace Go.Proofs.YtpigpajgjdcagaaGreat
open Go.RowKit Eng
def rb (id n ro cm vo x0 x1 x2 x3 x4 y0 y1 y2 y3 y4:Int):MB:=.own 260 [.ptr 1 0 0,.val (iv id),.val (iv n),.val (iv ro),.val (iv cm),.val (iv vo),.val (iv x0),.val (iv x1),.val (iv x2),.val (iv x3),.val (iv x4),.val (iv y0),.val (iv y1),.val (iv y2),.val (iv y3),.val (iv y4)]
def oJ (x:JD) (W:Nat→Prop):AO:=packO (fun _:Unit=>x.B) W
theorem zlu (id n ro cm vo x0 x1 x2 x3 x4 y0 y1 y2 y3 y4:Int) (X:JD) (W:Nat→Prop) :TriP Tryz.prog 269 [.one (.ptr 0 0 0)] ([rb id n ro cm vo x0 x1 x2 x3 x4 y0 y1 y2 y3 y4,PJ X W]) (vI ro):=by
 obtain ⟨A,hA,FG⟩:=aF;obtain ⟨O,hO⟩:=nm (oJ X W);change TriP _ _ _ [rb id n ro cm vo x0 x1 x2 x3 x4 y0 y1 y2 y3 y4,.obj (oJ X W)] _;rw [←hO];unfold rb;change Hid _ at hA hO
 refine zad (D:=ords269) (fnO zuk Tryz.func269) 6 (fun w0 own ps R hpl hR kE=>?_)
 refine kN ?_
 repeat' (conv=>arg 3;try cbv);first
  | ((with_reducible refine kG ?_);refine kO1 hR 2 ⟨?_,by rfl⟩)
  | simp only [*]
  | (split<;>(rename_i hsp;try simp only [FG] at hsp))
 all_goals rfl
theorem zhu (id n ro cm vo x0 x1 x2 x3 x4 y0 y1 y2 y3 y4:Int) (X:JD) (W:Nat→Prop) :TriP Tryz.prog 259 [.one (.ptr 0 0 0)] ([rb id n ro cm vo x0 x1 x2 x3 x4 y0 y1 y2 y3 y4,PJ X W]) (vI cm):=by
 obtain ⟨A,hA,FG⟩:=aF;obtain ⟨O,hO⟩:=nm (oJ X W);change TriP _ _ _ [rb id n ro cm vo x0 x1 x2 x3 x4 y0 y1 y2 y3 y4,.obj (oJ X W)] _;rw [←hO];unfold rb;change Hid _ at hA hO
 refine zad (D:=ords259) (fnO zul Tryz.func259) 6 (fun w0 own ps R hpl hR kE=>?_)
 refine kN ?_
 repeat' (conv=>arg 3;try cbv);first
  | ((with_reducible refine kG ?_);refine kO1 hR 2 ⟨?_,by rfl⟩)
  | simp only [*]
  | (split<;>(rename_i hsp;try simp only [FG] at hsp))
 all_goals rfl
theorem zam (id n ro cm vo x0 x1 x2 x3 x4 y0 y1 y2 y3 y4:Int) (X:JD) (W:Nat→Prop) :TriP Tryz.prog 241 [.one (.ptr 0 0 0)] ([rb id n ro cm vo x0 x1 x2 x3 x4 y0 y1 y2 y3 y4,PJ X W]) (vI X.j.term):=by
 obtain ⟨A,hA,FG⟩:=aF;obtain ⟨O,hO⟩:=nm (oJ X W);change TriP _ _ _ [rb id n ro cm vo x0 x1 x2 x3 x4 y0 y1 y2 y3 y4,.obj (oJ X W)] _;rw [←hO];unfold rb
 have tt:TriP _ _ _ [.obj (oJ X W)] _:=zrz X W
 rw [←hO] at tt;obtain ⟨jv,hjv⟩:=nm (X.j.term);rw [←hjv] at tt ⊢;change Hid _ at hA hO hjv
 refine zad (D:=ords241) (fnO zuw Tryz.func241) 7 (fun w0 own ps R hpl hR kE=>?_)
 refine kN ?_
 repeat' (conv=>arg 3;try cbv);first
  | ((with_reducible refine kC ?_);refine nP [.same 1] tt ?_)
  | ((with_reducible refine kG ?_);refine kO1 hR 2 ⟨?_,by rfl⟩)
  | simp only [*]
  | (split<;>(rename_i hsp;try simp only [FG] at hsp))
 all_goals rfl
theorem zsu (id n ro cm vo x0 x1 x2 x3 x4 y0 y1 y2 y3 y4:Int) (X:JD) (W:Nat→Prop) :TriP Tryz.prog 301 [.one (.ptr 0 0 0)] ([rb id n ro cm vo x0 x1 x2 x3 x4 y0 y1 y2 y3 y4,PJ X W]) (vI X.j.vote):=by
 obtain ⟨A,hA,FG⟩:=aF;obtain ⟨O,hO⟩:=nm (oJ X W);change TriP _ _ _ [rb id n ro cm vo x0 x1 x2 x3 x4 y0 y1 y2 y3 y4,.obj (oJ X W)] _;rw [←hO];unfold rb
 have tt:TriP _ _ _ [.obj (oJ X W)] _:=zry X W
 rw [←hO] at tt;obtain ⟨jv,hjv⟩:=nm (X.j.vote);rw [←hjv] at tt ⊢;change Hid _ at hA hO hjv
 refine zad (D:=ords301) (fnO zt5 Tryz.func301) 7 (fun w0 own ps R hpl hR kE=>?_)
 refine kN ?_
 repeat' (conv=>arg 3;try cbv);first
  | ((with_reducible refine kC ?_);refine nP [.same 1] tt ?_)
  | ((with_reducible refine kG ?_);refine kO1 hR 2 ⟨?_,by rfl⟩)
  | simp only [*]
  | (split<;>(rename_i hsp;try simp only [FG] at hsp))
 all_goals rfl
theorem zbn (id n ro cm vo x0 x1 x2 x3 x4 y0 y1 y2 y3 y4:Int) (X:JD) (W:Nat→Prop) :TriP Tryz.prog 247 [.one (.ptr 0 0 0)] ([rb id n ro cm vo x0 x1 x2 x3 x4 y0 y1 y2 y3 y4,PJ X W]) (vI (X.j.log.length:Int)):=by
 obtain ⟨A,hA,FG⟩:=aF;obtain ⟨O,hO⟩:=nm (oJ X W);change TriP _ _ _ [rb id n ro cm vo x0 x1 x2 x3 x4 y0 y1 y2 y3 y4,.obj (oJ X W)] _;rw [←hO];unfold rb
 have tt:TriP _ _ _ [.obj (oJ X W)] _:=zv4 X W
 rw [←hO] at tt;obtain ⟨jv,hjv⟩:=nm ((X.j.log.length:Int));rw [←hjv] at tt ⊢;change Hid _ at hA hO hjv
 refine zad (D:=ords247) (fnO zus Tryz.func247) 7 (fun w0 own ps R hpl hR kE=>?_)
 refine kN ?_
 repeat' (conv=>arg 3;try cbv);first
  | ((with_reducible refine kC ?_);refine nP [.same 1] tt ?_)
  | ((with_reducible refine kG ?_);refine kO1 hR 2 ⟨?_,by rfl⟩)
  | simp only [*]
  | (split<;>(rename_i hsp;try simp only [FG] at hsp))
 all_goals rfl
theorem qcf {a:Int} (h0:0≤a) (h1:a≤1000000):std.sub .i64 a 1=a-1:=wrap64 (by omega) (by omega)
theorem qbj (id n ro cm vo x0 x1 x2 x3 x4 y0 y1 y2 y3 y4:Int) (X:JD) (W:Nat→Prop) (i:Int):TriP Tryz.prog 331 [.one (.ptr 0 0 0),.one (.val (.int .i64 i))] ([rb id n ro cm vo x0 x1 x2 x3 x4 y0 y1 y2 y3 y4,PJ X W]) (.tup [.agg (rowS (atJ X.j.log i)),.one (.val (.bool (decide (0≤i∧i<X.j.log.length))))]):=by
 obtain ⟨A,hA,FG⟩:=aF;obtain ⟨O,hO⟩:=nm (oJ X W);change TriP _ _ _ [rb id n ro cm vo x0 x1 x2 x3 x4 y0 y1 y2 y3 y4,.obj (oJ X W)] _;rw [←hO];unfold rb
 have tt:TriP _ _ _ [.obj (oJ X W)] _:=zzh X i W
 rw [←hO] at tt;obtain ⟨jb,hjb⟩:=nm (decide (0≤i∧i<(X.j.log.length:Int)));obtain ⟨r,hr⟩:=nm (atJ X.j.log i);rw [←hjb,←hr] at tt ⊢;clear hr hjb;obtain ⟨rt,⟨kd,tk,tn,cl,ot,ep,wl,wh,nn⟩⟩:=r;change Hid _ at hA hO
 refine zad (D:=ords331) (fnO zmg Tryz.func331) 12 (fun w0 own ps R hpl hR kE=>?_)
 refine kN ?_
 repeat' (conv=>arg 3;try cbv);first
  | ((with_reducible refine kC ?_);refine nP [.same 1] tt ?_)
  | ((with_reducible refine kG ?_);refine zdk hR ⟨zmg,zaa⟩ 2 (by rfl) (by rfl) (by rfl) (by rfl) (by rfl) (by rfl) (by rfl) (Nat.le_refl 2) (by rfl) ⟨?_,by rfl⟩)
  | simp only [*]
  | (split<;>(rename_i hsp;try simp only [FG] at hsp))
 all_goals rfl
theorem zlw (id n ro cm vo x0 x1 x2 x3 x4 y0 y1 y2 y3 y4:Int) (X:JD) (W:Nat→Prop) (hb:X.j.log.length≤4096):TriP Tryz.prog 248 [.one (.ptr 0 0 0)] ([rb id n ro cm vo x0 x1 x2 x3 x4 y0 y1 y2 y3 y4,PJ X W]) (vI (atJ X.j.log ((X.j.log.length:Int)-1)).1):=by
 obtain ⟨A,hA,FG⟩:=aF;obtain ⟨O,hO⟩:=nm (oJ X W);change TriP _ _ _ [rb id n ro cm vo x0 x1 x2 x3 x4 y0 y1 y2 y3 y4,.obj (oJ X W)] _;rw [←hO];unfold rb
 have tl:TriP _ _ _ [.obj (oJ X W)] _:=zch X ((X.j.log.length:Int)-1) W
 rw [←hO] at tl
 have tn:=zbn id n ro cm vo x0 x1 x2 x3 x4 y0 y1 y2 y3 y4 X W
 change TriP _ _ _ [_,.obj (oJ X W)] _ at tn;rw [←hO] at tn;unfold rb at tn;obtain ⟨jn,hjn⟩:=nm ((X.j.log.length:Int));obtain ⟨jm,hjm⟩:=nm (jn-1);obtain ⟨jv,hjv⟩:=nm ((atJ X.j.log jm).1);simp only [←hjn] at tn tl ⊢;simp only [←hjm] at tl ⊢;rw [←hjv] at tl ⊢
 have f0:A.sub .i64 jn 1=jm:=by
  rw [hA]
  rw [hjm,hjn];exact qcf (by omega) (by omega)
 change Hid _ at hA hO hjn hjm hjv
 refine zad (D:=ords248) (fnO zur Tryz.func248) 10 (fun w0 own ps R hpl hR kE=>?_)
 refine kN ?_
 repeat' (conv=>arg 3;try cbv);first
  | ((with_reducible refine kC ?_);(first|refine nP [.same 1] tl ?_|refine nP [.same 0,.same 1] tn ?_))
  | ((with_reducible refine kG ?_);refine kO1 hR 2 ⟨?_,by rfl⟩)
  | simp only [*]
  | (split<;>(rename_i hsp;try simp only [FG] at hsp))
 all_goals rfl
theorem zhc (id n ro cm vo x0 x1 x2 x3 x4 y0 y1 y2 y3 y4:Int) (X:JD) (W:Nat→Prop) (kd to:Int):TriP Tryz.prog 246 [.one (.ptr 0 0 0),.one (.val (.int .i64 kd)),.one (.val (.int .i64 to))] ([rb id n ro cm vo x0 x1 x2 x3 x4 y0 y1 y2 y3 y4,PJ X W]) (.agg [.val (iv kd),.val (iv id),.val (iv to),.val (iv X.j.term),.val (iv 0),.val (iv 0),.val (iv 0),.val (.bool false),.val (.slice none 0 0)]):=by
 obtain ⟨A,hA,FG⟩:=aF;obtain ⟨O,hO⟩:=nm (oJ X W);change TriP _ _ _ [rb id n ro cm vo x0 x1 x2 x3 x4 y0 y1 y2 y3 y4,.obj (oJ X W)] _;rw [←hO];unfold rb
 have tt:=zam id n ro cm vo x0 x1 x2 x3 x4 y0 y1 y2 y3 y4 X W
 change TriP _ _ _ [_,.obj (oJ X W)] _ at tt;rw [←hO] at tt;unfold rb at tt;obtain ⟨jv,hjv⟩:=nm (X.j.term);rw [←hjv] at tt ⊢;change Hid _ at hA hO hjv
 refine zad (D:=ords246) (fnO zut Tryz.func246) 13 (fun w0 own ps R hpl hR kE=>?_)
 refine kN ?_
 repeat' (conv=>arg 3;try cbv);first
  | ((with_reducible refine kC ?_);refine nP [.same 0,.same 1] tt ?_)
  | ((with_reducible refine kG ?_);refine kO1 hR 2 ⟨?_,by rfl⟩)
  | simp only [*]
  | (split<;>(rename_i hsp;try simp only [FG] at hsp))
 all_goals rfl
theorem zdj (id n ro cm vo x0 x1 x2 x3 x4 y0 y1 y2 y3 y4:Int) (t v:Int) (lg:List (Int × EnD)) (D:List UInt8) (du:Int) (W:Nat→Prop) (a b:Int) (h1:0≤a∧a≤1073741824) (h2:-1≤b∧b<5) (h3:t≤a) (h4:t=a→v=-1∨v=b) (hr:(Rec.term a b).bytes.length≤65536) (hb:D.length+(frameB sumN (Rec.term a b).bytes).length≤1000000):TriX Tryz.prog 242 [.one (.ptr 0 0 0),.one (.val (.int .i64 a)),.one (.val (.int .i64 b))] ([rb id n ro cm vo x0 x1 x2 x3 x4 y0 y1 y2 y3 y4,PJ (⟨⟨t,v,lg⟩,D,du⟩:JD) W]) (.tup []) (fun W'=>[rb id n ro cm vo x0 x1 x2 x3 x4 y0 y1 y2 y3 y4,PJ (⟨⟨a,b,lg⟩,D++(frameB sumN (Rec.term a b).bytes),((D++(frameB sumN (Rec.term a b).bytes)).length:Int)⟩:JD) W']):=by
 obtain ⟨A,hA,FG⟩:=aF
 have tj:TriX _ _ _ [.obj (oJ (⟨⟨t,v,lg⟩,D,du⟩:JD) W)] _ (fun W'=>[.obj (oJ (⟨⟨a,b,lg⟩,D++(frameB sumN (Rec.term a b).bytes),du⟩:JD) W')]):=zma t v lg D du a b h1 h2 h3 h4 hr hb W
 have ty:∀ W,TriX _ _ _ [.obj (oJ (⟨⟨a,b,lg⟩,D++(frameB sumN (Rec.term a b).bytes),du⟩:JD) W)] _ (fun W'=>[.obj (oJ (⟨⟨a,b,lg⟩,D++(frameB sumN (Rec.term a b).bytes),((D++(frameB sumN (Rec.term a b).bytes)).length:Int)⟩:JD) W')]):=fun W=>zfk a b lg (D++(frameB sumN (Rec.term a b).bytes)) du W
 change TriX _ _ _ [rb id n ro cm vo x0 x1 x2 x3 x4 y0 y1 y2 y3 y4,.obj (oJ (⟨⟨t,v,lg⟩,D,du⟩:JD) W)] _ (fun W'=>[rb id n ro cm vo x0 x1 x2 x3 x4 y0 y1 y2 y3 y4,.obj (oJ (⟨⟨a,b,lg⟩,D++(frameB sumN (Rec.term a b).bytes),((D++(frameB sumN (Rec.term a b).bytes)).length:Int)⟩:JD) W')])
 obtain ⟨O,hO⟩:=nm (oJ (⟨⟨t,v,lg⟩,D,du⟩:JD) W);obtain ⟨O1,hO1⟩:=nm (oJ (⟨⟨a,b,lg⟩,D++(frameB sumN (Rec.term a b).bytes),du⟩:JD));obtain ⟨O2,hO2⟩:=nm (oJ (⟨⟨a,b,lg⟩,D++(frameB sumN (Rec.term a b).bytes),((D++(frameB sumN (Rec.term a b).bytes)).length:Int)⟩:JD));simp only [←hO1,←hO2] at tj ty ⊢;simp only [←hO] at tj ⊢;unfold rb;change Hid _ at hA hO hO1 hO2
 refine zad (D:=ords242) (fnO zuv Tryz.func242) 15 (fun w0 own ps R hpl hR kE=>?_)
 refine kN ?_
 repeat' (conv=>arg 3;try cbv);first
  | ((with_reducible refine kC ?_);(first|(refine kX [.same 1] tj (fun W1=>?_);refine kN ?_)|(refine kX [.same 1] (ty _) (fun W1=>?_);refine kN ?_)))
  | ((with_reducible refine kG ?_);refine kO0 hR 2 ⟨rfl,_,rfl⟩)
  | ((with_reducible refine kZ ?_);refine zbp hR 2 (by rfl) (by rfl) (by rfl) (Nat.le_refl 2) ⟨rfl,_,rfl⟩)
  | simp only [*]
  | (split<;>(rename_i hsp;try simp only [FG] at hsp))
theorem zz8 (lg:List (Int × EnD)) (i0 j:Nat) (h:j<(lg.drop i0).length):logV ((lg.drop i0).take (j+1))=logV ((lg.drop i0).take j)++entV (atJ lg ((i0+j:Nat):Int)):=by
 have h1:i0+j<lg.length:=by simp at h;omega
 have e:atJ lg ((i0+j:Nat):Int)=lg[i0+j]:=by
  unfold atJ
  rw [if_pos ⟨by omega,by omega⟩,Int.toNat_natCast]
  simp [List.getD_eq_getElem?_getD,List.getElem?_eq_getElem h1]
 rw [e,List.take_add_one,List.getElem?_eq_getElem h];unfold logV;rw [List.flatMap_append];simp
theorem zly (id n ro cm vo x0 x1 x2 x3 x4 y0 y1 y2 y3 y4:Int) (X:JD) (W:Nat→Prop) (i0:Nat) (hi0:i0≤X.j.log.length) (hlb:X.j.log.length≤4096):TriM Tryz.prog 299 [.one (.ptr 0 0 0),.one (.val (.int .i64 (i0:Int)))] ([rb id n ro cm vo x0 x1 x2 x3 x4 y0 y1 y2 y3 y4,PJ X W]) (.one (.gsl 2 (X.j.log.drop i0).length)) [rb id n ro cm vo x0 x1 x2 x3 x4 y0 y1 y2 y3 y4,PJ X W,.grow 270 10 (X.j.log.drop i0).length (logV (X.j.log.drop i0))]:=by
 obtain ⟨A,hA,FG⟩:=aF;obtain ⟨O,hO⟩:=nm (oJ X W);change TriM _ _ _ [rb id n ro cm vo x0 x1 x2 x3 x4 y0 y1 y2 y3 y4,.obj (oJ X W)] _ [rb id n ro cm vo x0 x1 x2 x3 x4 y0 y1 y2 y3 y4,.obj (oJ X W),_];rw [←hO];obtain ⟨d,hd⟩:=nm ((X.j.log.drop i0).length);obtain ⟨KV,hKV⟩:=nm (logV (X.j.log.drop i0))
 obtain ⟨II,hII⟩:=nm (fun j:Nat=>((i0+j:Nat):Int))
 obtain ⟨NN,hNN⟩:=nm (fun j:Nat=>j)
 obtain ⟨P,hP⟩:=nm (fun j:Nat=>logV ((X.j.log.drop i0).take j))
 obtain ⟨z0,hz0⟩:=nm ((i0:Int));obtain ⟨ln,hln⟩:=nm ((X.j.log.length:Int))
 obtain ⟨bb,hbb⟩:=nm (fun j:Nat=>decide (0≤((i0+j:Nat):Int)∧((i0+j:Nat):Int)<(X.j.log.length:Int)))
 obtain ⟨c0,hc0⟩:=nm (fun j:Nat=>(atJ X.j.log ((i0+j:Nat):Int)).1)
 obtain ⟨c1,hc1⟩:=nm (fun j:Nat=>(atJ X.j.log ((i0+j:Nat):Int)).2.kind)
 obtain ⟨c2,hc2⟩:=nm (fun j:Nat=>(atJ X.j.log ((i0+j:Nat):Int)).2.tick)
 obtain ⟨c3,hc3⟩:=nm (fun j:Nat=>(atJ X.j.log ((i0+j:Nat):Int)).2.tenant)
 obtain ⟨c4,hc4⟩:=nm (fun j:Nat=>(atJ X.j.log ((i0+j:Nat):Int)).2.cell)
 obtain ⟨c5,hc5⟩:=nm (fun j:Nat=>(atJ X.j.log ((i0+j:Nat):Int)).2.other)
 obtain ⟨c6,hc6⟩:=nm (fun j:Nat=>(atJ X.j.log ((i0+j:Nat):Int)).2.epoch)
 obtain ⟨c7,hc7⟩:=nm (fun j:Nat=>(atJ X.j.log ((i0+j:Nat):Int)).2.lo)
 obtain ⟨c8,hc8⟩:=nm (fun j:Nat=>(atJ X.j.log ((i0+j:Nat):Int)).2.hi)
 obtain ⟨c9,hc9⟩:=nm (fun j:Nat=>(atJ X.j.log ((i0+j:Nat):Int)).2.n)
 have hdl:d+i0=X.j.log.length:=by rw [hd,List.length_drop];omega
 have tn:TriP _ _ _ [_,.obj (oJ X W)] _:=zbn id n ro cm vo x0 x1 x2 x3 x4 y0 y1 y2 y3 y4 X W
 rw [←hO,←hln] at tn;unfold rb at tn
 have tat:∀ j:Nat,TriP Tryz.prog 331 [.one (.ptr 0 0 0),.one (.val (.int .i64 (II j)))] [.own 260 [.ptr 1 0 0,.val (iv id),.val (iv n),.val (iv ro),.val (iv cm),.val (iv vo),.val (iv x0),.val (iv x1),.val (iv x2),.val (iv x3),.val (iv x4),.val (iv y0),.val (iv y1),.val (iv y2),.val (iv y3),.val (iv y4)],.obj O] (.tup [.agg [.val (.int .i64 (c0 j)),.val (.int .i64 (c1 j)),.val (.int .i64 (c2 j)),.val (.int .i64 (c3 j)),.val (.int .i64 (c4 j)),.val (.int .i64 (c5 j)),.val (.int .i64 (c6 j)),.val (.int .i64 (c7 j)),.val (.int .i64 (c8 j)),.val (.int .i64 (c9 j))],.one (.val (.bool (bb j)))]):=by
  intro j;rw [hII,hbb,hc0,hc1,hc2,hc3,hc4,hc5,hc6,hc7,hc8,hc9,hO];exact qbj id n ro cm vo x0 x1 x2 x3 x4 y0 y1 y2 y3 y4 X W ((i0+j:Nat):Int)
 have l1:∀ j:Nat,A.lt (II j) ln=true→j+1≤d:=by rw [hA,hII,hln];intro j h2;have h9:((i0+j:Nat):Int)<(X.j.log.length:Int):=of_decide_eq_true h2;omega
 have l4:∀ j:Nat,A.lt (II j) ln=false→d≤j:=by rw [hA,hII,hln];intro j h2;have h9:¬ ((i0+j:Nat):Int)<(X.j.log.length:Int):=of_decide_eq_false h2;omega
 have l2:∀ j:Nat,A.lt (II j) ln=true→A.add .i64 (II j) 1=II (j+1):=by intro j hj;have:=l1 j hj;rw [hA,hII];exact (wrap64 (by simp;omega) (by simp;omega)).trans (by simp;omega)
 have g1:∀ j:Nat,A.lt (II j) ln=true→A.fits (NN j) 1=true:=by intro j hj;have:=l1 j hj;rw [hA,hNN];simp [std];omega
 have g2:∀ j:Nat,A.addn (NN j) 1=NN (j+1):=by intro j;rw [hA,hNN];rfl
 have g3:∀ j:Nat,A.lt (II j) ln=true→A.app (P j) [.int .i64 (c0 j),.int .i64 (c1 j),.int .i64 (c2 j),.int .i64 (c3 j),.int .i64 (c4 j),.int .i64 (c5 j),.int .i64 (c6 j),.int .i64 (c7 j),.int .i64 (c8 j),.int .i64 (c9 j)]=P (j+1):=by
  intro j hj
  have h9:=l1 j hj
  rw [hA,hP,hc0,hc1,hc2,hc3,hc4,hc5,hc6,hc7,hc8,hc9]
  exact (zz8 X.j.log i0 j (by rw [←hd];omega)).symm
 have n0:NN 0=0:=by rw [hNN]
 have p0:P 0=[]:=by rw [hP];rfl
 have i0e:II 0=z0:=by rw [hII,hz0];simp
 have e1:NN d=d:=by rw [hNN]
 have e2:P d=KV:=by rw [hP,hKV,hd];dsimp only;rw [List.take_length]
 simp only [←hd,←hKV,←hz0];unfold rb;change Hid _ at hA hO hd hKV hII hNN hP hz0 hln hbb hc0 hc1 hc2 hc3 hc4 hc5 hc6 hc7 hc8 hc9
 refine zad (D:=ords299) (fnO zt7 Tryz.func299) 23 (fun w0 own ps R hpl hR kE=>?_)
 refine kN ?_
 repeat' (conv=>arg 3;try cbv);first
  | (((with_reducible refine kL ?_);refine zix 5 270 10 (by rfl) (by rfl) ?_;(conv=>arg 3;cbv);refine zas 0 (α:={ j:Nat // j≤d }) [6,7,8,9,10,11,12,13,14,15,16,17,18,19,20,21,22,23] (fun x=>[(5,.one (.gsl 2 (NN x.1))),(1,.one (.val (.int .i64 (II x.1))))]) (fun x=>[.own 260 [.ptr 1 0 0,.val (iv id),.val (iv n),.val (iv ro),.val (iv cm),.val (iv vo),.val (iv x0),.val (iv x1),.val (iv x2),.val (iv x3),.val (iv x4),.val (iv y0),.val (iv y1),.val (iv y2),.val (iv y3),.val (iv y4)],.obj O,.grow 270 10 (NN x.1) (P x.1)]) (fun x=>d-x.1) ⟨0,Nat.zero_le _⟩ (by dsimp only;simp only [n0,i0e]<;>cbv<;>try simp) (by dsimp only;simp only [n0,p0]<;>rfl) (fun x=>rfl) (fun x y hy=>zb1 hy (Nat.lt_succ_self 2) trivial) rfl (fun x L' hL1 hL2=>?_);obtain ⟨j,hj⟩:=x;dsimp only;refine kN ?_))
  | (((with_reducible refine kA ?_);have hlt:=l1 j (by assumption);have hstep:=l2 j (by assumption);refine zal (l:=[0,1,5]) ⟨rfl,rfl,rfl⟩ hL2 ⟨j+1,hlt⟩ (show d-(j+1)<d-j by omega) rfl rfl (by rw [hpl];rfl) (zaj (n:=3) rfl) (zav (by cbv<;>trivial)) ⟨(by first|exact .inl rfl|exact .inr rfl),(by first|exact .inl rfl|exact .inr rfl),(by first|exact .inl rfl|exact .inr rfl),trivial⟩ (by dsimp only;(try simp only [hstep])<;>cbv<;>try simp)))
  | ((with_reducible refine kC ?_);(first|refine nP [.same 0,.same 1] tn ?_|refine nP [.same 0,.same 1] ((tat j)) ?_))
  | ((with_reducible refine kG ?_);(have hjj:j=d:=Nat.le_antisymm hj (l4 j (by assumption)));subst hjj;(simp only [e1,e2]);refine kR1 hR [0,1,2] ⟨rfl,rfl⟩)
  | simp only [FG,g2, *]
  | (split<;>(rename_i hsp;try simp only [FG] at hsp))
def msgV (m:MsgD) (p:Nat × Nat):List Value:=[iv m.kind,iv m.src,iv m.to,iv m.term,iv m.index,iv m.prev,iv m.commit,.bool m.ok,.slice (gA p) m.ents.length (gC p)]
theorem zhv (k:K3) (id n ro cm vo xx5 xx6 x3 x4 y0 y1 y2 y3 y4:Int) (X:JD) (W:Nat→Prop) (i0:Nat) (hi0:i0≤X.j.log.length) (hlb:X.j.log.length≤4096):TriM Tryz.prog 252 [.one (.ptr 0 0 0),.one (.val (.int .i64 (s3 k 0 1 2)))] ([rb id n ro cm vo (s3 k ((i0:Int)) xx5 xx5) (s3 k xx5 ((i0:Int)) xx6) (s3 k xx6 xx6 ((i0:Int))) x3 x4 y0 y1 y2 y3 y4,PJ X W]) (.agg [.val (iv 3),.val (iv id),.val (iv (s3 k 0 1 2)),.val (iv X.j.term),.val (iv (i0:Int)),.val (iv (atJ X.j.log ((i0:Int)-1)).1),.val (iv cm),.val (.bool false),.gsl 2 (X.j.log.drop i0).length]) [rb id n ro cm vo (s3 k ((i0:Int)) xx5 xx5) (s3 k xx5 ((i0:Int)) xx6) (s3 k xx6 xx6 ((i0:Int))) x3 x4 y0 y1 y2 y3 y4,PJ X W,.grow 270 10 (X.j.log.drop i0).length (logV (X.j.log.drop i0))]:=by
 obtain ⟨A,hA,FG⟩:=aF;obtain ⟨O,hO⟩:=nm (oJ X W);change TriM _ _ _ [rb id n ro cm vo (s3 k ((i0:Int)) xx5 xx5) (s3 k xx5 ((i0:Int)) xx6) (s3 k xx6 xx6 ((i0:Int))) x3 x4 y0 y1 y2 y3 y4,.obj (oJ X W)] _ [rb id n ro cm vo (s3 k ((i0:Int)) xx5 xx5) (s3 k xx5 ((i0:Int)) xx6) (s3 k xx6 xx6 ((i0:Int))) x3 x4 y0 y1 y2 y3 y4,.obj (oJ X W),_];rw [←hO]
 have tg:TriP _ _ _ [_,.obj (oJ X W)] _:=zhc id n ro cm vo (s3 k (i0:Int) xx5 xx5) (s3 k xx5 (i0:Int) xx6) (s3 k xx6 xx6 (i0:Int)) x3 x4 y0 y1 y2 y3 y4 X W 3 (s3 k 0 1 2)
 have tt:TriP _ _ _ [.obj (oJ X W)] _:=zch X ((i0:Int)-1) W
 have tf:TriM _ _ _ [_,.obj (oJ X W)] _ [_,.obj (oJ X W),_]:=zly id n ro cm vo (s3 k (i0:Int) xx5 xx5) (s3 k xx5 (i0:Int) xx6) (s3 k xx6 xx6 (i0:Int)) x3 x4 y0 y1 y2 y3 y4 X W i0 hi0 hlb
 cases k
 all_goals dsimp only [s3,s6] at *
 all_goals
  rw [←hO] at tg tt tf;obtain ⟨d,hd⟩:=nm ((X.j.log.drop i0).length);obtain ⟨KV,hKV⟩:=nm (logV (X.j.log.drop i0));obtain ⟨z0,hz0⟩:=nm ((i0:Int));obtain ⟨zm,hzm⟩:=nm ((i0:Int)-1);obtain ⟨jt,hjt⟩:=nm (X.j.term);obtain ⟨pt,hpt⟩:=nm ((atJ X.j.log ((i0:Int)-1)).1);simp only [←hd,←hKV,←hjt,←hpt] at tg tt tf ⊢;simp only [←hzm] at tg tt tf ⊢;simp only [←hz0] at tg tt tf ⊢;unfold rb at *
  have f0:A.sub .i64 z0 1=zm:=by
   rw [hA]
   rw [hzm,hz0];exact wrap64 (by omega) (by omega)
  change Hid _ at hA hO hd hKV hz0 hzm hjt hpt
  refine zad (D:=ords252) (fnO zuo Tryz.func252) 34 (fun w0 own ps R hpl hR kE=>?_)
  refine kN ?_
  repeat' (conv=>arg 3;try cbv);first
   | ((with_reducible refine kC ?_);(first|refine nP [.same 0,.same 1] tg ?_|refine nP [.same 1] tt ?_|refine nM [.same 0,.same 1] tf ?_))
   | ((with_reducible refine kG ?_);refine kR1 hR [0,1,4] ⟨rfl,rfl⟩)
   | simp only [*]
   | (split<;>(rename_i hsp;try simp only [FG] at hsp))
end Go.Proofs.YtpigpajgjdcagaaGreat
