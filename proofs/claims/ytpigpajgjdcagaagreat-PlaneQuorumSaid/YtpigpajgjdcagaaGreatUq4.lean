/- Parts. -/
import Derived.Test.YtpigpajgjdcagaaGreatUq3
import Derived.Test.YtpigpajgjdcagaaGreatUg
import Derived.Test.YtpigpajgjdcagaaGreatUr16
set_option linter.unusedSimpArgs false
set_option linter.unusedVariables false
set_option maxRecDepth 100000
set_option maxHeartbeats 60000000
namespace Go.Proofs.YtpigpajgjdcagaaGreat
open Go.RowKit Eng
theorem zdx (q:QuoD) (x:QX q) (w:Int) (hw:0≤w∧w<q.reps.length):TriP Tryz.prog 239 [.one (.ptr 0 0 0),.one (.val (.int .i64 w))] (qB q x) (vB true):=by
 obtain ⟨A,hA,FG⟩:=aF
 show TriP _ _ _ [.own 209 [.gsl 1 (q.reps.length),.gsl 2 (q.net.length),.gsl 3 (q.done.length)],.grow 210 1 (q.reps.length) (x.xs.map ptrV),.grow 226 9 (q.net.length) (netV q.net x.ps),.grow 45 9 (q.done.length) (enVs q.done),.obj (poolO (repOs q.reps x.xs)),.obj (poolO (eOs q.net x.ps))] _
 obtain ⟨n,hn⟩:=nm (q.reps.length);rw [←hn];obtain ⟨PV,hPV⟩:=nm (x.xs.map ptrV);rw [←hPV];obtain ⟨nn,hnn⟩:=nm (q.net.length);rw [←hnn];obtain ⟨NV,hNV⟩:=nm (netV q.net x.ps);rw [←hNV];obtain ⟨nd,hnd⟩:=nm (q.done.length);rw [←hnd];obtain ⟨DV,hDV⟩:=nm (enVs q.done);rw [←hDV];obtain ⟨L,hL⟩:=nm (repOs q.reps x.xs);rw [←hL];obtain ⟨OR,hOR⟩:=nm (poolO L);rw [←hOR];obtain ⟨OE,hOE⟩:=nm (poolO (eOs q.net x.ps));rw [←hOE]
 have f0:A.le 0 w=true:=by
  rw [hA];simp [std];omega
 have f1:A.lt w (A.len n)=true:=by
  rw [hA];rw [hn];simp [std];omega
 change Hid _ at hA hn hPV hnn hNV hnd hDV hL hOR hOE
 refine zad (D:=ords239) (fnO zux Tryz.func239) 14 (fun w0 own ps R hpl hR kE=>?_)
 refine kN ?_
 repeat' (conv=>arg 3;try cbv);first
  | ((with_reducible refine kG ?_);refine kO1 hR 6 ⟨rfl,rfl⟩)
  | simp only [*]
  | (split<;>(rename_i hsp;try simp only [FG] at hsp))
theorem zrd (q:QuoD) (x:QX q) (w:Int) (hw:0≤w∧w<q.reps.length) (N e0 e1 e2 e3 e4 e5 e6 e7 e8:Int):TriP Tryz.prog 169 [.one (.ptr 0 0 0),.agg [.val (iv 1),.val (iv w),.val (iv N),.val (iv e0),.val (iv e1),.val (iv e2),.val (iv e3),.val (iv e4),.val (iv e5),.val (iv e6),.val (iv e7),.val (iv e8)]] (qB q x) (vB true):=by
 obtain ⟨A,hA,FG⟩:=aF
 have th:=zdx q x w hw
 unfold qB at th
 show TriP _ _ _ [.own 209 [.gsl 1 (q.reps.length),.gsl 2 (q.net.length),.gsl 3 (q.done.length)],.grow 210 1 (q.reps.length) (x.xs.map ptrV),.grow 226 9 (q.net.length) (netV q.net x.ps),.grow 45 9 (q.done.length) (enVs q.done),.obj (poolO (repOs q.reps x.xs)),.obj (poolO (eOs q.net x.ps))] _
 obtain ⟨n,hn⟩:=nm (q.reps.length);rw [←hn];obtain ⟨PV,hPV⟩:=nm (x.xs.map ptrV);rw [←hPV];obtain ⟨nn,hnn⟩:=nm (q.net.length);rw [←hnn];obtain ⟨NV,hNV⟩:=nm (netV q.net x.ps);rw [←hNV];obtain ⟨nd,hnd⟩:=nm (q.done.length);rw [←hnd];obtain ⟨DV,hDV⟩:=nm (enVs q.done);rw [←hDV];obtain ⟨L,hL⟩:=nm (repOs q.reps x.xs);rw [←hL];obtain ⟨OR,hOR⟩:=nm (poolO L);rw [←hOR];obtain ⟨OE,hOE⟩:=nm (poolO (eOs q.net x.ps));rw [←hOE];rw [←hn,←hPV,←hnn,←hNV,←hnd,←hDV,←hL,←hOR,←hOE] at th
 have f0:A.eq 1 1=true∧A.eq 1 2=false∧A.eq 1 3=false∧A.eq 1 7=false:=by rw [hA];exact ⟨rfl,rfl,rfl,rfl⟩
 change Hid _ at hA hn hPV hnn hNV hnd hDV hL hOR hOE
 refine zad (D:=ords169) (fnO zh5 Tryz.func169) 31 (fun w0 own ps R hpl hR kE=>?_)
 refine kN ?_
 repeat' (conv=>arg 3;try cbv);first
  | ((with_reducible refine kC ?_);refine nP [.same 0,.same 1,.same 2,.same 3,.same 4,.same 5] th ?_)
  | ((with_reducible refine kG ?_);refine kO1 hR 6 ⟨rfl,rfl⟩)
  | simp only [*]
  | (split<;>(rename_i hsp;try simp only [FG] at hsp))
theorem zrc (q:QuoD) (x:QX q) (w:Int) (hw:0≤w∧w<q.reps.length) (N e0 e1 e2 e3 e4 e5 e6 e7 e8:Int):TriP Tryz.prog 169 [.one (.ptr 0 0 0),.agg [.val (iv 2),.val (iv w),.val (iv N),.val (iv e0),.val (iv e1),.val (iv e2),.val (iv e3),.val (iv e4),.val (iv e5),.val (iv e6),.val (iv e7),.val (iv e8)]] (qB q x) (vB true):=by
 obtain ⟨A,hA,FG⟩:=aF
 have th:=zdx q x w hw
 unfold qB at th
 show TriP _ _ _ [.own 209 [.gsl 1 (q.reps.length),.gsl 2 (q.net.length),.gsl 3 (q.done.length)],.grow 210 1 (q.reps.length) (x.xs.map ptrV),.grow 226 9 (q.net.length) (netV q.net x.ps),.grow 45 9 (q.done.length) (enVs q.done),.obj (poolO (repOs q.reps x.xs)),.obj (poolO (eOs q.net x.ps))] _
 obtain ⟨n,hn⟩:=nm (q.reps.length);rw [←hn];obtain ⟨PV,hPV⟩:=nm (x.xs.map ptrV);rw [←hPV];obtain ⟨nn,hnn⟩:=nm (q.net.length);rw [←hnn];obtain ⟨NV,hNV⟩:=nm (netV q.net x.ps);rw [←hNV];obtain ⟨nd,hnd⟩:=nm (q.done.length);rw [←hnd];obtain ⟨DV,hDV⟩:=nm (enVs q.done);rw [←hDV];obtain ⟨L,hL⟩:=nm (repOs q.reps x.xs);rw [←hL];obtain ⟨OR,hOR⟩:=nm (poolO L);rw [←hOR];obtain ⟨OE,hOE⟩:=nm (poolO (eOs q.net x.ps));rw [←hOE];rw [←hn,←hPV,←hnn,←hNV,←hnd,←hDV,←hL,←hOR,←hOE] at th
 have f0:A.eq 2 1=false∧A.eq 2 2=true∧A.eq 2 3=false∧A.eq 2 7=false:=by rw [hA];exact ⟨rfl,rfl,rfl,rfl⟩
 change Hid _ at hA hn hPV hnn hNV hnd hDV hL hOR hOE
 refine zad (D:=ords169) (fnO zh5 Tryz.func169) 31 (fun w0 own ps R hpl hR kE=>?_)
 refine kN ?_
 repeat' (conv=>arg 3;try cbv);first
  | ((with_reducible refine kC ?_);refine nP [.same 0,.same 1,.same 2,.same 3,.same 4,.same 5] th ?_)
  | ((with_reducible refine kG ?_);refine kO1 hR 6 ⟨rfl,rfl⟩)
  | simp only [*]
  | (split<;>(rename_i hsp;try simp only [FG] at hsp))
theorem zrb (q:QuoD) (x:QX q) (w:Int) (hw:0≤w∧w<q.reps.length) (N e0 e1 e2 e3 e4 e5 e6 e7 e8:Int):TriP Tryz.prog 169 [.one (.ptr 0 0 0),.agg [.val (iv 7),.val (iv w),.val (iv N),.val (iv e0),.val (iv e1),.val (iv e2),.val (iv e3),.val (iv e4),.val (iv e5),.val (iv e6),.val (iv e7),.val (iv e8)]] (qB q x) (vB true):=by
 obtain ⟨A,hA,FG⟩:=aF
 have th:=zdx q x w hw
 unfold qB at th
 show TriP _ _ _ [.own 209 [.gsl 1 (q.reps.length),.gsl 2 (q.net.length),.gsl 3 (q.done.length)],.grow 210 1 (q.reps.length) (x.xs.map ptrV),.grow 226 9 (q.net.length) (netV q.net x.ps),.grow 45 9 (q.done.length) (enVs q.done),.obj (poolO (repOs q.reps x.xs)),.obj (poolO (eOs q.net x.ps))] _
 obtain ⟨n,hn⟩:=nm (q.reps.length);rw [←hn];obtain ⟨PV,hPV⟩:=nm (x.xs.map ptrV);rw [←hPV];obtain ⟨nn,hnn⟩:=nm (q.net.length);rw [←hnn];obtain ⟨NV,hNV⟩:=nm (netV q.net x.ps);rw [←hNV];obtain ⟨nd,hnd⟩:=nm (q.done.length);rw [←hnd];obtain ⟨DV,hDV⟩:=nm (enVs q.done);rw [←hDV];obtain ⟨L,hL⟩:=nm (repOs q.reps x.xs);rw [←hL];obtain ⟨OR,hOR⟩:=nm (poolO L);rw [←hOR];obtain ⟨OE,hOE⟩:=nm (poolO (eOs q.net x.ps));rw [←hOE];rw [←hn,←hPV,←hnn,←hNV,←hnd,←hDV,←hL,←hOR,←hOE] at th
 have f0:A.eq 7 1=false∧A.eq 7 2=false∧A.eq 7 3=false∧A.eq 7 7=true:=by rw [hA];exact ⟨rfl,rfl,rfl,rfl⟩
 change Hid _ at hA hn hPV hnn hNV hnd hDV hL hOR hOE
 refine zad (D:=ords169) (fnO zh5 Tryz.func169) 31 (fun w0 own ps R hpl hR kE=>?_)
 refine kN ?_
 repeat' (conv=>arg 3;try cbv);first
  | ((with_reducible refine kC ?_);refine nP [.same 0,.same 1,.same 2,.same 3,.same 4,.same 5] th ?_)
  | ((with_reducible refine kG ?_);refine kO1 hR 6 ⟨rfl,rfl⟩)
  | simp only [*]
  | (split<;>(rename_i hsp;try simp only [FG] at hsp))
def ordsQDc:Ords:=[(300,[],0,[0]),(5,[(0,false),(1,false),(2,false),(3,false),(5,false),(6,false),(4,true),(7,true),(8,true),(9,true),(10,true)],11,[0,1,2,3,4,5]),(7,[(0,false),(1,false),(2,false),(3,false),(4,false),(5,false),(6,false),(7,false),(8,true),(9,true),(10,true),(11,true),(12,false),(13,false),(14,true),(15,true)],16,[]),(12,[(0,false),(1,false),(2,false),(3,false),(4,false),(5,true),(6,true),(7,true),(8,true),(9,true),(10,true)],11,[]),(14,[(0,false),(1,false),(2,false),(3,false),(4,false),(5,false),(6,false),(7,false),(8,true)],9,[]),(16,[(0,false),(1,false),(2,false),(3,false),(4,false),(5,false),(6,false),(7,false),(8,false),(9,true),(10,true),(11,true)],12,[]),(18,[(0,false),(1,false),(2,false),(3,false),(4,false),(5,false),(6,false),(7,false),(8,true)],9,[]),(19,[(0,false),(1,false),(2,false),(3,false),(4,false),(5,false),(6,false),(7,false),(8,false),(9,true),(10,true),(11,true)],12,[]),(23,[(0,false),(1,false),(2,false),(3,false),(4,false),(5,false),(6,false),(7,false),(8,true),(9,true),(10,true)],11,[])]
def ordsQDp:Ords:=[(300,[],0,[0]),(5,[(0,false),(1,false),(2,false),(3,false),(4,false),(5,true),(6,true),(7,true),(8,true),(9,true),(10,true)],11,[]),(7,[(0,false),(1,false),(2,false),(4,false),(5,false),(8,false),(9,false),(3,true),(6,true),(7,true),(10,true),(11,true),(12,false),(13,false),(14,true),(15,true)],16,[0,1,2,3,4,5]),(12,[(0,false),(1,false),(2,false),(3,false),(4,false),(5,true),(6,true),(7,true),(8,true),(9,true),(10,true)],11,[]),(14,[(0,false),(1,false),(2,false),(3,false),(4,false),(5,false),(6,false),(7,false),(8,true)],9,[]),(16,[(0,false),(1,false),(2,false),(3,false),(4,false),(5,false),(6,false),(7,false),(8,false),(9,true),(10,true),(11,true)],12,[]),(18,[(0,false),(1,false),(2,false),(3,false),(4,false),(5,false),(6,false),(7,false),(8,true)],9,[]),(19,[(0,false),(1,false),(2,false),(3,false),(4,false),(5,false),(6,false),(7,false),(8,false),(9,true),(10,true),(11,true)],12,[]),(23,[(0,false),(1,false),(2,false),(3,false),(4,false),(5,false),(6,false),(7,false),(8,true),(9,true),(10,true)],11,[])]
def ordsQDk:Ords:=[(300,[],0,[0]),(5,[(0,false),(1,false),(2,false),(3,false),(4,false),(5,true),(6,true),(7,true),(8,true),(9,true),(10,true)],11,[]),(7,[(0,false),(1,false),(2,false),(3,false),(4,false),(5,false),(6,false),(7,false),(8,true),(9,true),(10,true),(11,true),(12,false),(13,false),(14,true),(15,true)],16,[]),(12,[(0,false),(1,false),(2,false),(3,false),(4,false),(5,true),(6,true),(7,true),(8,true),(9,true),(10,true)],11,[]),(14,[(0,false),(1,false),(2,false),(3,false),(4,false),(5,false),(6,false),(7,false),(8,true)],9,[]),(16,[(0,false),(1,false),(2,false),(3,false),(4,false),(5,false),(6,false),(7,false),(8,false),(9,true),(10,true),(11,true)],12,[]),(18,[(0,false),(1,false),(2,false),(3,false),(4,false),(5,false),(6,false),(7,false),(8,true)],9,[]),(19,[(0,false),(1,false),(2,false),(3,false),(4,false),(5,false),(6,false),(7,false),(8,false),(9,true),(10,true),(11,true)],12,[]),(23,[(0,false),(1,false),(2,false),(4,false),(5,false),(8,false),(9,false),(3,true),(6,true),(7,true),(10,true)],11,[0,1,2,3,4,5])]
theorem zs9 (q:QuoD) (w:Int) (hw:0≤w∧w<q.reps.length) (hn3:q.reps.length≤5) (N e0 e1 e2 e3 e4 e5 e6 e7 e8:Int) (hC:COk (q.rep w)) (hl2:q.net.length+(q.rep w).campaign.2.length≤200) (hcm:∀ i:Nat,i<q.reps.length→∀ r',r'=(if (i:Int)=w then (q.rep w).campaign.1 else q.rep i)→0≤r'.commit∧r'.commit≤r'.j.log.length∧r'.j.log.length≤4096) (W:Nat→Prop):TriX Tryz.prog 96 [.one (.ptr 0 0 0),.agg [.val (iv 1),.val (iv w),.val (iv N),.val (iv e0),.val (iv e1),.val (iv e2),.val (iv e3),.val (iv e4),.val (iv e5),.val (iv e6),.val (iv e7),.val (iv e8)]] ([PQ q W]) (vI 0) (fun W'=>[PQ (q.campaign w) W']):=by
 obtain ⟨A,hA,FG⟩:=aF
 have hhas:q.has w=true:=by unfold QuoD.has;simp;omega
 change TriX _ _ _ [.obj (packO (qB q) W)] _ _
 have f0:A.eq 1 1=true:=by rw [hA];rfl
 replace hA:=kH hA
 refine zad (D:=ordsQDc) (fnO zkm Tryz.func96) 130 (fun w0 own ps R hpl hR kE=>?_)
 refine zah 0 rfl rfl (fun x=>by simp [qB]) (fun x=>?_)
 change Eng.Good _ _ (Eng.St.mk _ _ [.own 209 [.gsl 1 (q.reps.length),.gsl 2 (q.net.length),.gsl 3 (q.done.length)],.grow 210 1 (q.reps.length) (x.xs.map ptrV),.grow 226 9 (q.net.length) (netV q.net x.ps),.grow 45 9 (q.done.length) (enVs q.done),.obj (poolO (repOs q.reps x.xs)),.obj (poolO (eOs q.net x.ps))]);obtain ⟨n,hn⟩:=nm (q.reps.length);rw [←hn];obtain ⟨PV,hPV⟩:=nm (x.xs.map ptrV);rw [←hPV];obtain ⟨nn,hnn⟩:=nm (q.net.length);rw [←hnn];obtain ⟨NV,hNV⟩:=nm (netV q.net x.ps);rw [←hNV];obtain ⟨nd,hnd⟩:=nm (q.done.length);rw [←hnd];obtain ⟨DV,hDV⟩:=nm (enVs q.done);rw [←hDV];obtain ⟨L,hL⟩:=nm (repOs q.reps x.xs);rw [←hL];obtain ⟨OR,hOR⟩:=nm (poolO L);rw [←hOR];obtain ⟨OE,hOE⟩:=nm (poolO (eOs q.net x.ps));rw [←hOE]
 have hperm:TriP Tryz.prog 169 [.one (.ptr 0 0 0),.agg [.val (iv 1),.val (iv w),.val (iv N),.val (iv e0),.val (iv e1),.val (iv e2),.val (iv e3),.val (iv e4),.val (iv e5),.val (iv e6),.val (iv e7),.val (iv e8)]] [.own 209 [.gsl 1 (n),.gsl 2 (nn),.gsl 3 (nd)],.grow 210 1 (n) (PV),.grow 226 9 (nn) (NV),.grow 45 9 (nd) (DV),.obj (OR),.obj (OE)] (vB true):=by rw [hOE,hOR,hL,hDV,hnd,hNV,hnn,hPV,hn];exact zrd q x w hw N e0 e1 e2 e3 e4 e5 e6 e7 e8
 have p3:A.inb w n=true:=by rw [hA.out,hn];simp [std];omega
 obtain ⟨aa,haa⟩:=nm ((x.xs.getD w.toNat (0,fun _=>False)).1)
 obtain ⟨BR,hBR⟩:=nm (RB (q.rep w) (x.xs.getD w.toNat (0,fun _=>False)).2)
 have p1:A.get PV (A.idx 0 w 1) 0=some (.pointer (some ⟨aa,0,none⟩)):=by
  have h9:=p3
  rw [hA.out,hn] at h9;rw [hA.out,hPV,haa];exact zd5 x h9
 have p2:L[w.toNat]?=some (atO BR (aa,0)):=by
  have h9:=p3
  rw [hA.out,hn] at h9;rw [hL,hBR,haa];exact zd3 x h9
 change Hid _ at hn hPV hnn hNV hnd hDV hL hOR hOE haa hBR;refine kN ?_
 repeat' (conv=>arg 3;try cbv);first
  | ((with_reducible refine kC ?_);(first|refine nP [.same 0,.same 1,.same 2,.same 3,.same 4,.same 5] hperm ?_|(obtain ⟨rr,hrr⟩:=nm ((q.rep w).campaign.1);refine zb5 4 w.toNat [.one (.ptr 7 0 0)] hOR.out (by rfl) p2 rfl rfl (fun ρ hρ=>by { have e:ρ 7=_:=hρ;show (Value.pointer _::_)=(Value.pointer (some ⟨(ρ 7).1,(ρ 7).2+(0+0),none⟩)::_);rw [e] }) (fun O1 hO1=>?_);obtain ⟨out,hout⟩:=nm ((q.rep w).campaign.2);have tH:=hC.at (x.xs.getD w.toNat (0,fun _=>False));rw [←hrr,←hout] at tH;rw [←hout] at hl2;rw [←hrr] at hcm;unfold repO at tH;dsimp only at tH;rw [←hBR.out,←haa.out] at tH;refine kY [.same 7] [7] tH (fun y=>?_);refine zb9 4 7 w.toNat hO1 (by rfl) (by rfl) rfl (zdn p2) rfl (fun O3 hO3=>?_);have z1:n=(q.reps.set w.toNat rr).length:=(by rw [hn.out,List.length_set]);have z2:PV=(x.xs.set w.toNat (aa,y.W)).map ptrV:=(by rw [hPV.out,haa.out];exact zie.symm);have z3:O3=poolO (repOs (q.reps.set w.toNat rr) (x.xs.set w.toNat (aa,y.W))):=(by rw [hO3,List.set_set,hL.out];exact congrArg poolO (zd4 q.reps x.xs w.toNat rr (aa,y.W)));rw [z1,z2,z3,hnd.out,hDV.out,hnn.out,hNV.out,hOE.out];obtain ⟨q1,hq1⟩:∃ v9:QuoD,v9={ q with reps:=q.reps.set w.toNat rr }:=⟨_,rfl⟩;refine zdi 0 [1,2,3,4,5] (m:=qB { q with reps:=q.reps.set w.toNat rr }) ⟨x.xs.set w.toNat (aa,y.W),x.ps,(by simp [x.hx]),x.ok⟩ rfl rfl rfl (by exact ⟨rfl,rfl,rfl,rfl,rfl,rfl,rfl,rfl,rfl,rfl,rfl,rfl,trivial⟩) (zaj rfl) (fun W1=>?_);rw [←hq1];obtain ⟨OQ,hOQ⟩:=nm (packO (qB q1) W1);obtain ⟨ko,hko⟩:=nm (out.length);obtain ⟨OV,hOV⟩:=nm (netV out y.ps);obtain ⟨O5,hO5⟩:=nm (poolO (eOs out y.ps));rw [←hOQ,←hko,←hOV,←hO5];have tS:TriX Tryz.prog 170 [.one (.ptr 0 0 0),.one (.gsl 1 ko)] [.obj OQ,.grow 226 9 ko OV,.obj O5] (.tup []) (fun W'=>[PQ (q1.send out) W',.grow 226 9 ko OV,.dead]):=(by rw [hOQ,hko,hOV,hO5];exact zfg q1 out y.ps y.ok (by rw [hq1];exact hl2) W1);obtain ⟨q2,hq2⟩:=nm (q1.send out);rw [←hq2] at tS;have hl:q2.reps.length=q.reps.length:=(by rw [hq2,(zcf q1 out).1,hq1];exact List.length_set);have tN:∀ W2,TriX Tryz.prog 177 [.one (.ptr 0 0 0)] [PQ q2 W2] (.tup []) (fun W'=>[PQ q2.note W']):=(fun W2=>zdw q2 (by rw [hl];exact hn3) (fun i hi=>hcm i (by rw [←hl];exact hi) _ (by rw [hq2,(zcf q1 out).2,hq1];rw [zdo (by omega)];exact zeb (by omega))) W2);change Hid _ at hq1 hq2 hOQ hko hOV hO5 hrr hl hout;clear hcm hl2 hO1 hO3 z1 z2 z3 tH hC;refine kN ?_)|(refine kX [.same 0,.same 8,.same 9] tS (fun W2=>?_);have tN2:=tN W2;clear tS tN;unfold PQ at tN2 ⊢;obtain ⟨OP,hOP⟩:=nm (packO (qB q2) W2);rw [←hOP] at tN2 ⊢;replace hOP:=kH hOP;refine kN ?_)|(refine kX [.same 0] tN2 (fun W3=>?_);clear tN2;obtain ⟨OP3,hOP3⟩:=nm (packO (qB q2.note) W3);rw [←hOP3];replace hOP3:=kH hOP3;refine kN ?_)))
  | ((with_reducible refine kG ?_);rw [hOP3.out];refine kO1 hR 1 ⟨rfl,W3,?_⟩;show [PQ q2.note W3]=[PQ (q.campaign w) W3];unfold QuoD.campaign;rw [if_neg (by rw [hhas];simp),show q.set w (q.rep w).campaign.1=q1 by rw [hq1.out,hrr.out];rfl,←hout.out,←hq2.out])
  | simp only [*]
  | (split<;>(rename_i hsp;try simp only [FG] at hsp))
theorem zs4 (q:QuoD) (w:Int) (hw:0≤w∧w<q.reps.length) (hn3:q.reps.length≤5) (N:Int) (e:EnD) (hC:POk (q.rep w) e) (hl2:q.net.length+((q.rep w).propose e).2.1.length≤200) (hcm:∀ i:Nat,i<q.reps.length→∀ r',r'=(if (i:Int)=w then ((q.rep w).propose e).1 else q.rep i)→0≤r'.commit∧r'.commit≤r'.j.log.length∧r'.j.log.length≤4096) (W:Nat→Prop):TriX Tryz.prog 96 [.one (.ptr 0 0 0),.agg [.val (iv 2),.val (iv w),.val (iv N),.val (iv (e.kind)),.val (iv (e.tick)),.val (iv (e.tenant)),.val (iv (e.cell)),.val (iv (e.other)),.val (iv (e.epoch)),.val (iv (e.lo)),.val (iv (e.hi)),.val (iv (e.n))]] ([PQ q W]) (vI 0) (fun W'=>[PQ (q.propose w e).1 W']):=by
 obtain ⟨A,hA,FG⟩:=aF
 have hhas:q.has w=true:=by unfold QuoD.has;simp;omega
 change TriX _ _ _ [.obj (packO (qB q) W)] _ _
 have f0:A.eq 2 1=false∧A.eq 2 2=true∧A.eq 0 0=true:=by rw [hA];exact ⟨rfl,rfl,rfl⟩
 replace hA:=kH hA
 refine zad (D:=ordsQDp) (fnO zkm Tryz.func96) 130 (fun w0 own ps R hpl hR kE=>?_)
 refine zah 0 rfl rfl (fun x=>by simp [qB]) (fun x=>?_)
 change Eng.Good _ _ (Eng.St.mk _ _ [.own 209 [.gsl 1 (q.reps.length),.gsl 2 (q.net.length),.gsl 3 (q.done.length)],.grow 210 1 (q.reps.length) (x.xs.map ptrV),.grow 226 9 (q.net.length) (netV q.net x.ps),.grow 45 9 (q.done.length) (enVs q.done),.obj (poolO (repOs q.reps x.xs)),.obj (poolO (eOs q.net x.ps))]);obtain ⟨n,hn⟩:=nm (q.reps.length);rw [←hn];obtain ⟨PV,hPV⟩:=nm (x.xs.map ptrV);rw [←hPV];obtain ⟨nn,hnn⟩:=nm (q.net.length);rw [←hnn];obtain ⟨NV,hNV⟩:=nm (netV q.net x.ps);rw [←hNV];obtain ⟨nd,hnd⟩:=nm (q.done.length);rw [←hnd];obtain ⟨DV,hDV⟩:=nm (enVs q.done);rw [←hDV];obtain ⟨L,hL⟩:=nm (repOs q.reps x.xs);rw [←hL];obtain ⟨OR,hOR⟩:=nm (poolO L);rw [←hOR];obtain ⟨OE,hOE⟩:=nm (poolO (eOs q.net x.ps));rw [←hOE];obtain ⟨e0,he0⟩:=nm (e.kind);rw [←he0];obtain ⟨e1,he1⟩:=nm (e.tick);rw [←he1];obtain ⟨e2,he2⟩:=nm (e.tenant);rw [←he2];obtain ⟨e3,he3⟩:=nm (e.cell);rw [←he3];obtain ⟨e4,he4⟩:=nm (e.other);rw [←he4];obtain ⟨e5,he5⟩:=nm (e.epoch);rw [←he5];obtain ⟨e6,he6⟩:=nm (e.lo);rw [←he6];obtain ⟨e7,he7⟩:=nm (e.hi);rw [←he7];obtain ⟨e8,he8⟩:=nm (e.n);rw [←he8]
 have hperm:TriP Tryz.prog 169 [.one (.ptr 0 0 0),.agg [.val (iv 2),.val (iv w),.val (iv N),.val (iv e0),.val (iv e1),.val (iv e2),.val (iv e3),.val (iv e4),.val (iv e5),.val (iv e6),.val (iv e7),.val (iv e8)]] [.own 209 [.gsl 1 (n),.gsl 2 (nn),.gsl 3 (nd)],.grow 210 1 (n) (PV),.grow 226 9 (nn) (NV),.grow 45 9 (nd) (DV),.obj (OR),.obj (OE)] (vB true):=by rw [hOE,hOR,hL,hDV,hnd,hNV,hnn,hPV,hn];exact zrc q x w hw N e0 e1 e2 e3 e4 e5 e6 e7 e8
 have p3:A.inb w n=true:=by rw [hA.out,hn];simp [std];omega
 obtain ⟨aa,haa⟩:=nm ((x.xs.getD w.toNat (0,fun _=>False)).1)
 obtain ⟨BR,hBR⟩:=nm (RB (q.rep w) (x.xs.getD w.toNat (0,fun _=>False)).2)
 have p1:A.get PV (A.idx 0 w 1) 0=some (.pointer (some ⟨aa,0,none⟩)):=by
  have h9:=p3
  rw [hA.out,hn] at h9;rw [hA.out,hPV,haa];exact zd5 x h9
 have p2:L[w.toNat]?=some (atO BR (aa,0)):=by
  have h9:=p3
  rw [hA.out,hn] at h9;rw [hL,hBR,haa];exact zd3 x h9
 change Hid _ at hn hPV hnn hNV hnd hDV hL hOR hOE haa hBR he0 he1 he2 he3 he4 he5 he6 he7 he8;refine kN ?_
 repeat' (conv=>arg 3;try cbv);first
  | ((with_reducible refine kC ?_);(first|refine nP [.same 0,.same 1,.same 2,.same 3,.same 4,.same 5] hperm ?_|(obtain ⟨rr,hrr⟩:=nm (((q.rep w).propose e).1);refine zb5 4 w.toNat [.one (.ptr 7 0 0),.agg [.val (iv e0),.val (iv e1),.val (iv e2),.val (iv e3),.val (iv e4),.val (iv e5),.val (iv e6),.val (iv e7),.val (iv e8)]] hOR.out (by rfl) p2 rfl rfl (fun ρ hρ=>by { have e:ρ 7=_:=hρ;show (Value.pointer _::_)=(Value.pointer (some ⟨(ρ 7).1,(ρ 7).2+(0+0),none⟩)::_);rw [e] }) (fun O1 hO1=>?_);obtain ⟨out,hout⟩:=nm (((q.rep w).propose e).2.1);have tH:=hC.at (x.xs.getD w.toNat (0,fun _=>False));rw [←hrr,←hout] at tH;rw [←hout] at hl2;rw [←hrr] at hcm;unfold repO enS at tH;dsimp only at tH;rw [←hBR.out,←haa.out,←he0.out,←he1.out,←he2.out,←he3.out,←he4.out,←he5.out,←he6.out,←he7.out,←he8.out] at tH;refine kY [.same 7] [7] tH (fun y=>?_);refine zb9 4 7 w.toNat hO1 (by rfl) (by rfl) rfl (zdn p2) rfl (fun O3 hO3=>?_);have z1:n=(q.reps.set w.toNat rr).length:=(by rw [hn.out,List.length_set]);have z2:PV=(x.xs.set w.toNat (aa,y.W)).map ptrV:=(by rw [hPV.out,haa.out];exact zie.symm);have z3:O3=poolO (repOs (q.reps.set w.toNat rr) (x.xs.set w.toNat (aa,y.W))):=(by rw [hO3,List.set_set,hL.out];exact congrArg poolO (zd4 q.reps x.xs w.toNat rr (aa,y.W)));rw [z1,z2,z3,hnd.out,hDV.out,hnn.out,hNV.out,hOE.out];obtain ⟨q1,hq1⟩:∃ v9:QuoD,v9={ q with reps:=q.reps.set w.toNat rr }:=⟨_,rfl⟩;refine zdi 0 [1,2,3,4,5] (m:=qB { q with reps:=q.reps.set w.toNat rr }) ⟨x.xs.set w.toNat (aa,y.W),x.ps,(by simp [x.hx]),x.ok⟩ rfl rfl rfl (by exact ⟨rfl,rfl,rfl,rfl,rfl,rfl,rfl,rfl,rfl,rfl,rfl,rfl,trivial⟩) (zaj rfl) (fun W1=>?_);rw [←hq1];obtain ⟨OQ,hOQ⟩:=nm (packO (qB q1) W1);obtain ⟨ko,hko⟩:=nm (out.length);obtain ⟨OV,hOV⟩:=nm (netV out y.ps);obtain ⟨O5,hO5⟩:=nm (poolO (eOs out y.ps));rw [←hOQ,←hko,←hOV,←hO5];have tS:TriX Tryz.prog 170 [.one (.ptr 0 0 0),.one (.gsl 1 ko)] [.obj OQ,.grow 226 9 ko OV,.obj O5] (.tup []) (fun W'=>[PQ (q1.send out) W',.grow 226 9 ko OV,.dead]):=(by rw [hOQ,hko,hOV,hO5];exact zfg q1 out y.ps y.ok (by rw [hq1];exact hl2) W1);obtain ⟨q2,hq2⟩:=nm (q1.send out);rw [←hq2] at tS;have hl:q2.reps.length=q.reps.length:=(by rw [hq2,(zcf q1 out).1,hq1];exact List.length_set);have tN:∀ W2,TriX Tryz.prog 177 [.one (.ptr 0 0 0)] [PQ q2 W2] (.tup []) (fun W'=>[PQ q2.note W']):=(fun W2=>zdw q2 (by rw [hl];exact hn3) (fun i hi=>hcm i (by rw [←hl];exact hi) _ (by rw [hq2,(zcf q1 out).2,hq1];rw [zdo (by omega)];exact zeb (by omega))) W2);change Hid _ at hq1 hq2 hOQ hko hOV hO5 hrr hl hout;clear hcm hl2 hO1 hO3 z1 z2 z3 tH;refine kN ?_)|(refine kX [.same 0,.same 8,.same 9] tS (fun W2=>?_);have tN2:=tN W2;clear tS tN;unfold PQ at tN2 ⊢;obtain ⟨OP,hOP⟩:=nm (packO (qB q2) W2);rw [←hOP] at tN2 ⊢;replace hOP:=kH hOP;refine kN ?_)|(refine kX [.same 0] tN2 (fun W3=>?_);clear tN2;obtain ⟨OP3,hOP3⟩:=nm (packO (qB q2.note) W3);rw [←hOP3];replace hOP3:=kH hOP3;refine kN ?_)))
  | ((with_reducible refine kG ?_);rw [hOP3.out];refine kO1 hR 1 ⟨rfl,W3,?_⟩;show [PQ q2.note W3]=[PQ (q.propose w e).1 W3];unfold QuoD.propose;rw [if_neg (by rw [hhas];simp)];dsimp only;rw [if_neg (by rw [hC.1];simp),show q.set w ((q.rep w).propose e).1=q1 by rw [hq1.out,hrr.out];rfl,←hout.out,←hq2.out])
  | simp only [*]
  | (split<;>(rename_i hsp;try simp only [FG] at hsp))
theorem zrf (q:QuoD) (w:Int) (hw:0≤w∧w<q.reps.length) (hn3:q.reps.length≤5) (N e0 e1 e2 e3 e4 e5 e6 e7 e8:Int) (hC:KOk (q.rep w)) (hcm:∀ i:Nat,i<q.reps.length→∀ r',r'=(if (i:Int)=w then (q.rep w).crash else q.rep i)→0≤r'.commit∧r'.commit≤r'.j.log.length∧r'.j.log.length≤4096) (W:Nat→Prop):TriX Tryz.prog 96 [.one (.ptr 0 0 0),.agg [.val (iv 7),.val (iv w),.val (iv N),.val (iv e0),.val (iv e1),.val (iv e2),.val (iv e3),.val (iv e4),.val (iv e5),.val (iv e6),.val (iv e7),.val (iv e8)]] ([PQ q W]) (vI 0) (fun W'=>[PQ (q.crash w) W']):=by
 obtain ⟨A,hA,FG⟩:=aF
 have hhas:q.has w=true:=by unfold QuoD.has;simp;omega
 change TriX _ _ _ [.obj (packO (qB q) W)] _ _
 have f0:A.eq 7 1=false∧A.eq 7 2=false∧A.eq 7 3=false∧A.eq 7 4=false∧A.eq 7 5=false∧A.eq 7 6=false∧A.eq 7 7=true:=by rw [hA];exact ⟨rfl,rfl,rfl,rfl,rfl,rfl,rfl⟩
 replace hA:=kH hA
 refine zad (D:=ordsQDk) (fnO zkm Tryz.func96) 130 (fun w0 own ps R hpl hR kE=>?_)
 refine zah 0 rfl rfl (fun x=>by simp [qB]) (fun x=>?_)
 change Eng.Good _ _ (Eng.St.mk _ _ [.own 209 [.gsl 1 (q.reps.length),.gsl 2 (q.net.length),.gsl 3 (q.done.length)],.grow 210 1 (q.reps.length) (x.xs.map ptrV),.grow 226 9 (q.net.length) (netV q.net x.ps),.grow 45 9 (q.done.length) (enVs q.done),.obj (poolO (repOs q.reps x.xs)),.obj (poolO (eOs q.net x.ps))]);obtain ⟨n,hn⟩:=nm (q.reps.length);rw [←hn];obtain ⟨PV,hPV⟩:=nm (x.xs.map ptrV);rw [←hPV];obtain ⟨nn,hnn⟩:=nm (q.net.length);rw [←hnn];obtain ⟨NV,hNV⟩:=nm (netV q.net x.ps);rw [←hNV];obtain ⟨nd,hnd⟩:=nm (q.done.length);rw [←hnd];obtain ⟨DV,hDV⟩:=nm (enVs q.done);rw [←hDV];obtain ⟨L,hL⟩:=nm (repOs q.reps x.xs);rw [←hL];obtain ⟨OR,hOR⟩:=nm (poolO L);rw [←hOR];obtain ⟨OE,hOE⟩:=nm (poolO (eOs q.net x.ps));rw [←hOE]
 have hperm:TriP Tryz.prog 169 [.one (.ptr 0 0 0),.agg [.val (iv 7),.val (iv w),.val (iv N),.val (iv e0),.val (iv e1),.val (iv e2),.val (iv e3),.val (iv e4),.val (iv e5),.val (iv e6),.val (iv e7),.val (iv e8)]] [.own 209 [.gsl 1 (n),.gsl 2 (nn),.gsl 3 (nd)],.grow 210 1 (n) (PV),.grow 226 9 (nn) (NV),.grow 45 9 (nd) (DV),.obj (OR),.obj (OE)] (vB true):=by rw [hOE,hOR,hL,hDV,hnd,hNV,hnn,hPV,hn];exact zrb q x w hw N e0 e1 e2 e3 e4 e5 e6 e7 e8
 have p3:A.inb w n=true:=by rw [hA.out,hn];simp [std];omega
 obtain ⟨aa,haa⟩:=nm ((x.xs.getD w.toNat (0,fun _=>False)).1)
 obtain ⟨BR,hBR⟩:=nm (RB (q.rep w) (x.xs.getD w.toNat (0,fun _=>False)).2)
 have p1:A.get PV (A.idx 0 w 1) 0=some (.pointer (some ⟨aa,0,none⟩)):=by
  have h9:=p3
  rw [hA.out,hn] at h9;rw [hA.out,hPV,haa];exact zd5 x h9
 have p2:L[w.toNat]?=some (atO BR (aa,0)):=by
  have h9:=p3
  rw [hA.out,hn] at h9;rw [hL,hBR,haa];exact zd3 x h9
 change Hid _ at hn hPV hnn hNV hnd hDV hL hOR hOE haa hBR;refine kN ?_
 repeat' (conv=>arg 3;try cbv);first
  | ((with_reducible refine kC ?_);(first|refine nP [.same 0,.same 1,.same 2,.same 3,.same 4,.same 5] hperm ?_|(obtain ⟨rr,hrr⟩:=nm ((q.rep w).crash);refine zb5 4 w.toNat [.one (.ptr 7 0 0),.one (.val (.int .i64 N))] hOR.out (by rfl) p2 rfl rfl (fun ρ hρ=>by { have e:ρ 7=_:=hρ;show (Value.pointer _::_)=(Value.pointer (some ⟨(ρ 7).1,(ρ 7).2+(0+0),none⟩)::_);rw [e] }) (fun O1 hO1=>?_);have tH:=hC.at (x.xs.getD w.toNat (0,fun _=>False)) N;rw [←hrr] at tH;rw [←hrr] at hcm;unfold repO at tH;dsimp only at tH;rw [←hBR.out,←haa.out] at tH;refine kX [.same 7] tH (fun W9=>?_);refine zb9 4 7 w.toNat hO1 (by rfl) (by rfl) rfl (zdn p2) rfl (fun O3 hO3=>?_);have z1:n=(q.reps.set w.toNat rr).length:=(by rw [hn.out,List.length_set]);have z2:PV=(x.xs.set w.toNat (aa,W9)).map ptrV:=(by rw [hPV.out,haa.out];exact zie.symm);have z3:O3=poolO (repOs (q.reps.set w.toNat rr) (x.xs.set w.toNat (aa,W9))):=(by rw [hO3,List.set_set,hL.out];exact congrArg poolO (zd4 q.reps x.xs w.toNat rr (aa,W9)));rw [z1,z2,z3,hnd.out,hDV.out,hnn.out,hNV.out,hOE.out];obtain ⟨q1,hq1⟩:∃ v9:QuoD,v9={ q with reps:=q.reps.set w.toNat rr }:=⟨_,rfl⟩;refine zdi 0 [1,2,3,4,5] (m:=qB { q with reps:=q.reps.set w.toNat rr }) ⟨x.xs.set w.toNat (aa,W9),x.ps,(by simp [x.hx]),x.ok⟩ rfl rfl rfl (by exact ⟨rfl,rfl,rfl,rfl,rfl,rfl,rfl,rfl,rfl,rfl,rfl,rfl,trivial⟩) (zaj rfl) (fun W1=>?_);rw [←hq1];obtain ⟨q2,hq2⟩:=nm (q1);rw [←hq2];have hl:q2.reps.length=q.reps.length:=(by rw [hq2,hq1];exact List.length_set);have tN:∀ W2,TriX Tryz.prog 177 [.one (.ptr 0 0 0)] [PQ q2 W2] (.tup []) (fun W'=>[PQ q2.note W']):=(fun W2=>zdw q2 (by rw [hl];exact hn3) (fun i hi=>hcm i (by rw [←hl];exact hi) _ (by rw [hq2,hq1];rw [zdo (by omega)];exact zeb (by omega))) W2);have tN2:=tN W1;clear tN;unfold PQ at tN2;obtain ⟨OP,hOP⟩:=nm (packO (qB q2) W1);rw [←hOP] at tN2 ⊢;change Hid _ at hq1 hq2 hOP hrr hl;clear hcm hO1 hO3 z1 z2 z3 tH hC;refine kN ?_)|(refine kX [.same 0] tN2 (fun W3=>?_);clear tN2;obtain ⟨OP3,hOP3⟩:=nm (packO (qB q2.note) W3);rw [←hOP3];replace hOP3:=kH hOP3;refine kN ?_)))
  | ((with_reducible refine kG ?_);rw [hOP3.out];refine kO1 hR 1 ⟨rfl,W3,?_⟩;show [PQ q2.note W3]=[PQ (q.crash w) W3];unfold QuoD.crash;rw [if_neg (by rw [hhas];simp),show q.set w (q.rep w).crash=q1 by rw [hq1.out,hrr.out];rfl,←hq2.out])
  | simp only [*]
  | (split<;>(rename_i hsp;try simp only [FG] at hsp))
theorem zsd:Goes Tryz.prog 196:=zbe Tryz.func196 (by kernel_rfl) (by kernel_rfl)
theorem zs8 (q:QuoD) (x:QX q) (w:Int) (hw:0≤w∧w<q.reps.length):TriP Tryz.prog 196 [.one (.ptr 0 0 0),.one (.val (.int .i64 w))] (qB q x) (vI (q.rep w).commit):=by
 obtain ⟨A,hA,FG⟩:=aF
 have th:=zdx q x w hw
 unfold qB at th
 show TriP _ _ _ [.own 209 [.gsl 1 (q.reps.length),.gsl 2 (q.net.length),.gsl 3 (q.done.length)],.grow 210 1 (q.reps.length) (x.xs.map ptrV),.grow 226 9 (q.net.length) (netV q.net x.ps),.grow 45 9 (q.done.length) (enVs q.done),.obj (poolO (repOs q.reps x.xs)),.obj (poolO (eOs q.net x.ps))] _
 obtain ⟨n,hn⟩:=nm (q.reps.length);rw [←hn];obtain ⟨PV,hPV⟩:=nm (x.xs.map ptrV);rw [←hPV];obtain ⟨nn,hnn⟩:=nm (q.net.length);rw [←hnn];obtain ⟨NV,hNV⟩:=nm (netV q.net x.ps);rw [←hNV];obtain ⟨nd,hnd⟩:=nm (q.done.length);rw [←hnd];obtain ⟨DV,hDV⟩:=nm (enVs q.done);rw [←hDV];obtain ⟨L,hL⟩:=nm (repOs q.reps x.xs);rw [←hL];obtain ⟨OR,hOR⟩:=nm (poolO L);rw [←hOR];obtain ⟨OE,hOE⟩:=nm (poolO (eOs q.net x.ps));rw [←hOE];rw [←hn,←hPV,←hnn,←hNV,←hnd,←hDV,←hL,←hOR,←hOE] at th
 have p3:A.inb w n=true:=by rw [hA,hn];simp [std];omega
 obtain ⟨aa,haa⟩:=nm ((x.xs.getD w.toNat (0,fun _=>False)).1)
 obtain ⟨BR,hBR⟩:=nm (RB (q.rep w) (x.xs.getD w.toNat (0,fun _=>False)).2)
 have p1:A.get PV (A.idx 0 w 1) 0=some (.pointer (some ⟨aa,0,none⟩)):=by
  have h9:=p3
  rw [hA,hn] at h9;rw [hA,hPV,haa];exact zd5 x h9
 have p2:L[w.toNat]?=some (atO BR (aa,0)):=by
  have h9:=p3
  rw [hA,hn] at h9;rw [hL,hBR,haa];exact zd3 x h9
 obtain ⟨cc,hcc⟩:=nm ((q.rep w).commit)
 have tc:TriP Tryz.prog 259 [.one (.ptr 0 0 0)] [BR] (vI cc):=by rw [hBR,hcc];exact zfa _ _
 rw [←hcc];change Hid _ at hA hn hPV hnn hNV hnd hDV hL hOR hOE haa hBR hcc
 refine zad (D:=ords196) (fnO zu7 Tryz.func196) 15 (fun w0 own ps R hpl hR kE=>?_)
 refine kN ?_
 repeat' (conv=>arg 3;try cbv);first
  | ((with_reducible refine kC ?_);(first|refine nP [.same 0,.same 1,.same 2,.same 3,.same 4,.same 5] th ?_|(refine zj7 4 w.toNat [] hOR.out (by rfl) p2 tc (by rfl) rfl rfl rfl rfl rfl rfl ?_;refine kN ?_)))
  | ((with_reducible refine kG ?_);refine kO1 hR 6 ⟨rfl,rfl⟩)
  | simp only [*]
  | (split<;>(rename_i hsp;try simp only [FG] at hsp))
theorem zyc (q:QuoD) (w:Int) (hw:0≤w∧w<q.reps.length) (W:Nat→Prop):TriP Tryz.prog 196 [.one (.ptr 0 0 0),.one (.val (.int .i64 w))] [PQ q W] (vI (q.rep w).commit) :=
 zcz zsd (fun _=>by simp [qB]) rfl rfl fun x=>zs8 q x w hw
theorem zsc:Goes Tryz.prog 270:=zbe Tryz.func270 (by kernel_rfl) (by kernel_rfl)
theorem zs6 (q:QuoD) (x:QX q) (w:Int) (hw:0≤w∧w<q.reps.length) (hl:(q.rep w).j.log.length≤4096):TriM Tryz.prog 270 [.one (.ptr 0 0 0),.one (.val (.int .i64 w))] (qB q x) (.one (.gsl 6 (q.rep w).j.log.length)) (qB q x++[.grow 270 10 (q.rep w).j.log.length (logV (q.rep w).j.log)]):=by
 obtain ⟨A,hA,FG⟩:=aF
 have th:=zdx q x w hw
 unfold qB at th;obtain ⟨ln,hln⟩:=nm ((q.rep w).j.log.length);obtain ⟨LV,hLV⟩:=nm (logV (q.rep w).j.log);rw [←hln,←hLV]
 show TriM _ _ _ [.own 209 [.gsl 1 (q.reps.length),.gsl 2 (q.net.length),.gsl 3 (q.done.length)],.grow 210 1 (q.reps.length) (x.xs.map ptrV),.grow 226 9 (q.net.length) (netV q.net x.ps),.grow 45 9 (q.done.length) (enVs q.done),.obj (poolO (repOs q.reps x.xs)),.obj (poolO (eOs q.net x.ps))] _ [.own 209 [.gsl 1 (q.reps.length),.gsl 2 (q.net.length),.gsl 3 (q.done.length)],.grow 210 1 (q.reps.length) (x.xs.map ptrV),.grow 226 9 (q.net.length) (netV q.net x.ps),.grow 45 9 (q.done.length) (enVs q.done),.obj (poolO (repOs q.reps x.xs)),.obj (poolO (eOs q.net x.ps)),.grow 270 10 ln LV]
 obtain ⟨n,hn⟩:=nm (q.reps.length);rw [←hn];obtain ⟨PV,hPV⟩:=nm (x.xs.map ptrV);rw [←hPV];obtain ⟨nn,hnn⟩:=nm (q.net.length);rw [←hnn];obtain ⟨NV,hNV⟩:=nm (netV q.net x.ps);rw [←hNV];obtain ⟨nd,hnd⟩:=nm (q.done.length);rw [←hnd];obtain ⟨DV,hDV⟩:=nm (enVs q.done);rw [←hDV];obtain ⟨L,hL⟩:=nm (repOs q.reps x.xs);rw [←hL];obtain ⟨OR,hOR⟩:=nm (poolO L);rw [←hOR];obtain ⟨OE,hOE⟩:=nm (poolO (eOs q.net x.ps));rw [←hOE];rw [←hn,←hPV,←hnn,←hNV,←hnd,←hDV,←hL,←hOR,←hOE] at th
 have p3:A.inb w n=true:=by rw [hA,hn];simp [std];omega
 obtain ⟨aa,haa⟩:=nm ((x.xs.getD w.toNat (0,fun _=>False)).1)
 obtain ⟨BR,hBR⟩:=nm (RB (q.rep w) (x.xs.getD w.toNat (0,fun _=>False)).2)
 have p1:A.get PV (A.idx 0 w 1) 0=some (.pointer (some ⟨aa,0,none⟩)):=by
  have h9:=p3
  rw [hA,hn] at h9;rw [hA,hPV,haa];exact zd5 x h9
 have p2:L[w.toNat]?=some (atO BR (aa,0)):=by
  have h9:=p3
  rw [hA,hn] at h9;rw [hL,hBR,haa];exact zd3 x h9
 have tl:TriM Tryz.prog 260 [.one (.ptr 0 0 0)] [.obj (atO BR (aa,0))] (.one (.gsl 1 ln)) [.obj (atO BR (aa,0)),.grow 270 10 ln LV]:=by rw [hBR,hln,hLV];exact ztk (zqc _ _ hl) _
 change Hid _ at hA hn hPV hnn hNV hnd hDV hL hOR hOE haa hBR hln hLV
 refine zad (D:=ords270) (fnO zmj Tryz.func270) 15 (fun w0 own ps R hpl hR kE=>?_)
 refine kN ?_
 repeat' (conv=>arg 3;try cbv);first
  | ((with_reducible refine kC ?_);(first|refine nP [.same 0,.same 1,.same 2,.same 3,.same 4,.same 5] th ?_|(refine zb5 4 w.toNat [.one (.ptr 6 0 0)] hOR.out (by rfl) p2 rfl rfl (fun ρ hρ=>by { have e:ρ 6=_:=hρ;show [Value.pointer _]=[Value.pointer (some ⟨(ρ 6).1,(ρ 6).2+(0+0),none⟩)];rw [e] }) (fun O1 hO1=>?_);refine kM [.same 6] tl ?_;refine zb9 4 6 w.toNat hO1 (by rfl) (by rfl) rfl (zdn p2) rfl (fun O2 hO2=>?_);obtain rfl:OR=O2:=(by rw [hO2,hOR.out,zp6 p2]);change Hid _ at hO1 hO2;refine kN ?_)))
  | ((with_reducible refine kG ?_);refine zcr hR ⟨zmj,zaa⟩ [0,1,2,3,4,5,7] ([.own 209 [.gsl 1 (n),.gsl 2 (nn),.gsl 3 (nd)],.grow 210 1 (n) (PV),.grow 226 9 (nn) (NV),.grow 45 9 (nd) (DV),.obj (OR),.obj (OE),.grow 270 10 ln LV]) (by rfl) (.one (.gsl 6 ln)) (by rfl) (by rfl) (by rfl) (by rfl) (by rfl) hpl (by exact ⟨(by first|exact .inl rfl|exact .inr rfl),(by first|exact .inl rfl|exact .inr rfl),(by first|exact .inl rfl|exact .inr rfl),(by first|exact .inl rfl|exact .inr rfl),(by first|exact .inl rfl|exact .inr rfl),(by first|exact .inl rfl|exact .inr rfl),(by first|exact .inl rfl|exact .inr rfl),trivial⟩) (by rfl) (by show 6≤7;omega) (by rfl) ⟨rfl,rfl⟩)
  | simp only [*]
  | (split<;>(rename_i hsp;try simp only [FG] at hsp))
theorem zyb (q:QuoD) (w:Int) (hw:0≤w∧w<q.reps.length) (hl:(q.rep w).j.log.length≤4096) (W:Nat→Prop):TriM Tryz.prog 270 [.one (.ptr 0 0 0),.one (.val (.int .i64 w))] [PQ q W] (.one (.gsl 1 (q.rep w).j.log.length)) [PQ q W,.grow 270 10 (q.rep w).j.log.length (logV (q.rep w).j.log)] :=
 zfh zsc (fun _=>by simp [qB]) rfl fun x=>zs6 q x w hw hl
theorem qab (l:List EnD):(enVs l).length=l.length * 9:=by
 induction l with
 | nil=>rfl
 | cons e l ih =>
   simp only [enVs,List.flatMap_cons,List.length_append,List.length_cons] at ih ⊢
   rw [ih,show (enV1 e).length=9 from rfl]
   omega
theorem zpa:Goes Tryz.prog 105:=zbe Tryz.func105 (by kernel_rfl) (by kernel_rfl)
theorem zre (q:QuoD) (x:QX q) (hd:q.done.length≤4096):TriM Tryz.prog 105 [.one (.ptr 0 0 0)] (qB q x) (.one (.gsl 6 q.done.length)) (qB q x++[.grow 45 9 q.done.length (enVs q.done)]):=by
 obtain ⟨A,hA,FG⟩:=aF
 show TriM _ _ _ [.own 209 [.gsl 1 (q.reps.length),.gsl 2 (q.net.length),.gsl 3 (q.done.length)],.grow 210 1 (q.reps.length) (x.xs.map ptrV),.grow 226 9 (q.net.length) (netV q.net x.ps),.grow 45 9 (q.done.length) (enVs q.done),.obj (poolO (repOs q.reps x.xs)),.obj (poolO (eOs q.net x.ps))] _ [.own 209 [.gsl 1 (q.reps.length),.gsl 2 (q.net.length),.gsl 3 (q.done.length)],.grow 210 1 (q.reps.length) (x.xs.map ptrV),.grow 226 9 (q.net.length) (netV q.net x.ps),.grow 45 9 (q.done.length) (enVs q.done),.obj (poolO (repOs q.reps x.xs)),.obj (poolO (eOs q.net x.ps)),.grow 45 9 q.done.length (enVs q.done)]
 obtain ⟨n,hn⟩:=nm (q.reps.length);rw [←hn];obtain ⟨PV,hPV⟩:=nm (x.xs.map ptrV);rw [←hPV];obtain ⟨nn,hnn⟩:=nm (q.net.length);rw [←hnn];obtain ⟨NV,hNV⟩:=nm (netV q.net x.ps);rw [←hNV];obtain ⟨nd,hnd⟩:=nm (q.done.length);rw [←hnd];obtain ⟨DV,hDV⟩:=nm (enVs q.done);rw [←hDV];obtain ⟨L,hL⟩:=nm (repOs q.reps x.xs);rw [←hL];obtain ⟨OR,hOR⟩:=nm (poolO L);rw [←hOR];obtain ⟨OE,hOE⟩:=nm (poolO (eOs q.net x.ps));rw [←hOE]
 have tcl:TriM Tryz.prog 198 [.one (.rsl 0 nd)] [.rs nd DV] (.one (.gsl 1 nd)) [.rs nd DV,.grow 45 9 nd DV]:=zbx zpg (by rw [hnd,hDV];exact qab _) (by omega)
 change Hid _ at hA hn hPV hnn hNV hnd hDV hL hOR hOE
 refine zad (D:=ords105) (fnO zmr Tryz.func105) 7 (fun w0 own ps R hpl hR kE=>?_)
 refine kN ?_
 repeat' (conv=>arg 3;try cbv);first
  | ((with_reducible refine kC ?_);refine nM [.rd (.gsl 3 nd)] tcl ?_)
  | ((with_reducible refine kG ?_);refine zhd hR ⟨zmr,zaa⟩ 7 (by rfl) (by rfl) (by rfl) (by rfl) (by show 6≤7;omega) (by rfl) ⟨rfl,rfl⟩)
  | simp only [*]
  | (split<;>(rename_i hsp;try simp only [FG] at hsp))
theorem zs7 (q:QuoD) (hd:q.done.length≤4096) (W:Nat→Prop):TriM Tryz.prog 105 [.one (.ptr 0 0 0)] [PQ q W] (.one (.gsl 1 q.done.length)) [PQ q W,.grow 45 9 q.done.length (enVs q.done)] :=
 zfh zpa (fun _=>by simp [qB]) rfl fun x=>zre q x hd
namespace Eng
section
variable {E:Env} {R:Ending→World→Prop}
theorem zf3 (e:Nat) {b:MB} {K:Prop} {k:List It} {tm:PT} {mem:List MB} (hb:nth mem e=some b) (h:∀ ρ w p,BlkAt ρ w p b→K) (hg:K→Good E R ⟨k,tm,mem⟩):Good E R ⟨k,tm,mem⟩:=by
 rw [zak] at hb;intro ρ w a hρ hl H htm ha hit;exact hg (h ρ w _ (H.blk e b hb)) ρ w a hρ hl H htm ha hit
end
end Eng
theorem qdo {r:RepD} {W:Nat→Prop} {ρ:Nat→Nat × Nat} {w:World} {p:Nat × Nat} (h:BlkAt ρ w p (RB r W)):p=(p.1,0):=by
 obtain ⟨x,_,ρ',h1,h2,_⟩:=h
 have h3:=(h2 0 _ rfl).1
 rw [h1] at h3;exact Prod.ext rfl h3
theorem zkz {L:List AO} {r:RepD} {W:Nat→Prop} {p:Nat × Nat} {o:AO} (ho:o=poolO (L++[atO (RB r W) p])):∀ ρ w q,BlkAt ρ w q (.obj o)→p=(p.1,0):=by
 subst ho
 rintro ρ w q ⟨⟨ps,h⟩,_⟩
 obtain ⟨p',_,h2⟩:=h L.length (atO (RB r W) p) (by simp)
 exact qdo h2.2.2.2
theorem rnewRB30:TriX Tryz.prog 161 [.one (.val (.int .i64 0)),.one (.val (.int .i64 3))] [] (.tup [.one (.ptr 0 0 0),.one (.val (iv 0))]) (fun W'=>[RB (RepD.new 0 3) W']):=zs0
theorem rnewRB31:TriX Tryz.prog 161 [.one (.val (.int .i64 1)),.one (.val (.int .i64 3))] [] (.tup [.one (.ptr 0 0 0),.one (.val (iv 0))]) (fun W'=>[RB (RepD.new 1 3) W']):=zsz
theorem rnewRB32:TriX Tryz.prog 161 [.one (.val (.int .i64 2)),.one (.val (.int .i64 3))] [] (.tup [.one (.ptr 0 0 0),.one (.val (iv 0))]) (fun W'=>[RB (RepD.new 2 3) W']):=zsy
theorem rnewRB10:TriX Tryz.prog 161 [.one (.val (.int .i64 0)),.one (.val (.int .i64 1))] [] (.tup [.one (.ptr 0 0 0),.one (.val (iv 0))]) (fun W'=>[RB (RepD.new 0 1) W']):=zsx
theorem zl1 :TriX Tryz.prog 91 [.one (.val (.int .i64 3))] ([]) (.tup [.one (.ptr 0 0 0),.one (.val (iv 0))]) (fun W'=>[PQ (QuoD.new 3) W']):=by
 obtain ⟨A,hA,FG⟩:=aF
 have f0:A.lt 0 3=true∧A.lt 1 3=true∧A.lt 2 3=true∧A.lt 3 3=false∧A.eq 3 0=false∧A.eq 0 0=true∧A.add .i64 0 1=1∧A.add .i64 1 1=2∧A.add .i64 2 1=3∧A.addn 0 1=1∧A.addn 1 1=2∧A.addn 2 1=3∧A.fits 0 1=true∧A.fits 1 1=true∧A.fits 2 1=true:=by rw [hA];exact ⟨rfl,rfl,rfl,rfl,rfl,rfl,rfl,rfl,rfl,rfl,rfl,rfl,rfl,rfl,rfl⟩
 replace hA:=kH hA
 refine zad (D:=ords91) (fnO zpx Tryz.func91) 38 (fun w0 own ps R hpl hR kE=>?_)
 refine zax rfl (fun o0 ho0=>?_)
 replace ho0:=kH ho0;refine kN ?_
 repeat' (conv=>arg 3;try cbv);first
  | (((with_reducible refine kL ?_);refine zbo 0 4 rfl (fun Ls hag=>?_);refine hag _ _ _ _ ?_;refine kN ?_))
  | (((with_reducible refine kA ?_);refine hag _ _ _ _ ?_;refine kN ?_))
  | ((with_reducible refine kC ?_);(first|(refine kX [] rnewRB30 (fun W1=>?_);refine zb6 2 0 (RB (RepD.new 0 3) W1) ho0.out rfl rfl rfl rfl rfl (fun _=>trivial) (fun p1 A1 k1 o1 hA1 hk1 ho1=>?_);refine zf3 0 rfl (zkz ho1) (fun hp1=>?_);obtain ⟨a1,ha1⟩:=nm (p1.1);rw [←ha1] at hp1;subst hp1;clear ha1 hA1 hk1;replace ho1:=kH ho1;refine kN ?_)|(refine kX [] rnewRB31 (fun W2=>?_);refine zb6 5 0 (RB (RepD.new 1 3) W2) ho1.out rfl rfl rfl rfl rfl (fun _=>trivial) (fun p2 A2 k2 o2 hA2 hk2 ho2=>?_);refine zf3 0 rfl (zkz ho2) (fun hp2=>?_);obtain ⟨a2,ha2⟩:=nm (p2.1);rw [←ha2] at hp2;subst hp2;clear ha2 hA2 hk2;replace ho2:=kH ho2;refine kN ?_)|(refine kX [] rnewRB32 (fun W3=>?_);refine zb6 8 0 (RB (RepD.new 2 3) W3) ho2.out rfl rfl rfl rfl rfl (fun _=>trivial) (fun p3 A3 k3 o3 hA3 hk3 ho3=>?_);refine zf3 0 rfl (zkz ho3) (fun hp3=>?_);obtain ⟨a3,ha3⟩:=nm (p3.1);rw [←ha3] at hp3;subst hp3;clear ha3 hA3 hk3;replace ho3:=kH ho3;refine kN ?_)))
  | ((with_reducible refine kG ?_);have hap:∀ l r,A.app l r=l++r:=(fun l r=>by rw [hA.out];rfl);(try simp only [hap]);refine zb7 1 1 226 9 rfl rfl rfl ?_;refine zb7 1 2 45 9 rfl rfl rfl ?_;refine zax rfl (fun oE hoE=>?_);rw [ho3.out,hoE];refine kK 1 [10,11,12,0,13] (m:=qB (QuoD.new 3)) ⟨[(a1,W1),(a2,W2),(a3,W3)],[],rfl,⟨rfl,(by nofun)⟩⟩ (fun W'=>?_);refine kR2 hR [1] ⟨rfl,W',rfl⟩)
  | simp only [*]
  | (split<;>(rename_i hsp;try simp only [FG] at hsp))
theorem zs5 :TriX Tryz.prog 91 [.one (.val (.int .i64 1))] ([]) (.tup [.one (.ptr 0 0 0),.one (.val (iv 0))]) (fun W'=>[PQ (QuoD.new 1) W']):=by
 obtain ⟨A,hA,FG⟩:=aF
 have f0:A.lt 0 1=true∧A.lt 1 1=false∧A.eq 1 0=false∧A.eq 0 0=true∧A.add .i64 0 1=1∧A.addn 0 1=1∧A.fits 0 1=true:=by rw [hA];exact ⟨rfl,rfl,rfl,rfl,rfl,rfl,rfl⟩
 replace hA:=kH hA
 refine zad (D:=ords91) (fnO zpx Tryz.func91) 38 (fun w0 own ps R hpl hR kE=>?_)
 refine zax rfl (fun o0 ho0=>?_)
 replace ho0:=kH ho0;refine kN ?_
 repeat' (conv=>arg 3;try cbv);first
  | (((with_reducible refine kL ?_);refine zbo 0 2 rfl (fun Ls hag=>?_);refine hag _ _ _ _ ?_;refine kN ?_))
  | (((with_reducible refine kA ?_);refine hag _ _ _ _ ?_;refine kN ?_))
  | ((with_reducible refine kC ?_);refine kX [] rnewRB10 (fun W1=>?_);refine zb6 2 0 (RB (RepD.new 0 1) W1) ho0.out rfl rfl rfl rfl rfl (fun _=>trivial) (fun p1 A1 k1 o1 hA1 hk1 ho1=>?_);refine zf3 0 rfl (zkz ho1) (fun hp1=>?_);obtain ⟨a1,ha1⟩:=nm (p1.1);rw [←ha1] at hp1;subst hp1;clear ha1 hA1 hk1;replace ho1:=kH ho1;refine kN ?_)
  | ((with_reducible refine kG ?_);have hap:∀ l r,A.app l r=l++r:=(fun l r=>by rw [hA.out];rfl);(try simp only [hap]);refine zb7 1 1 226 9 rfl rfl rfl ?_;refine zb7 1 2 45 9 rfl rfl rfl ?_;refine zax rfl (fun oE hoE=>?_);rw [ho1.out,hoE];refine kK 1 [4,5,6,0,7] (m:=qB (QuoD.new 1)) ⟨[(a1,W1)],[],rfl,⟨rfl,(by nofun)⟩⟩ (fun W'=>?_);refine kR2 hR [1] ⟨rfl,W',rfl⟩)
  | simp only [*]
  | (split<;>(rename_i hsp;try simp only [FG] at hsp))
end Go.Proofs.YtpigpajgjdcagaaGreat
