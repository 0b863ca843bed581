/- Parts. -/
import Derived.Test.YtpigpajgjdcagaaGreatUq2
set_option linter.unusedSimpArgs false
set_option linter.unusedVariables false
set_option maxRecDepth 100000
set_option maxHeartbeats 60000000
namespace Go.Proofs.YtpigpajgjdcagaaGreat
open Go.RowKit Eng
def FlOk (up:Int):Nat→Nat→QuoD→Prop
 | 0,_,q=>q.net=[]
 | f + 1, c, q => match q.net with
   | []=>True
   | m :: r => c < 5000 ∧ (0 ≤ m.src ∧ m.src < 5) ∧ (0 ≤ m.to ∧ m.to < q.reps.length) ∧
     if QuoD.upB up m.src=false∨QuoD.upB up m.to=false then FlOk up f c { q with net:=r }
     else HOk (q.rep m.to) m∧r.length+((q.rep m.to).handle m).2.length≤200∧(∀ i:Nat,i<q.reps.length→∀ r',r'=(if (i:Int)=m.to then ((q.rep m.to).handle m).1 else q.rep i)→0≤r'.commit∧r'.commit≤r'.j.log.length∧r'.j.log.length≤4096)∧FlOk up f (c+1) (QuoD.deliver { q with net:=r } m)
theorem qdm:∀ u:Fin 8,∀ s:Fin 5,std.eq (std.band .i64 (std.shr (u.val:Int) (std.conv .u64 (s.val:Int)) .i64) 1) 0=!(QuoD.upB (u.val:Int) (s.val:Int)):=by decide
theorem zxp {up s:Int} (hu:0≤up∧up<8) (hs:0≤s∧s<5):std.eq (std.band .i64 (std.shr up (std.conv .u64 s) .i64) 1) 0=!(QuoD.upB up s):=by
 have:=qdm ⟨up.toNat,by omega⟩ ⟨s.toNat,by omega⟩
 rwa [show ((up.toNat:Nat):Int)=up by omega,show ((s.toNat:Nat):Int)=s by omega] at this
theorem qcq:∀ s:Fin 5,std.le 0 (std.conv .u64 (s.val:Int))=true:=by decide
theorem zqm {s:Int} (hs:0≤s∧s<5):std.le 0 (std.conv .u64 s)=true:=by
 have:=qcq ⟨s.toNat,by omega⟩
 rwa [show ((s.toNat:Nat):Int)=s by omega] at this
theorem zdo {q:QuoD} {i:Nat} {r:RepD} (hi:i<q.reps.length) (j:Nat):({ q with reps:=q.reps.set i r }:QuoD).rep j=if j=i then r else q.rep j:=by
 simp only [QuoD.rep,Int.toNat_natCast,List.getD_eq_getElem?_getD]
 by_cases h:i=j
 ·subst h;simp [hi]
 ·rw [List.getElem?_set_ne h,if_neg (fun e=>h e.symm)]
def ordsFL:Ords:=[(300,[],0,[0]),(6,[(0,false),(1,false),(2,false),(3,false),(5,false),(6,false),(9,false),(4,true),(7,true),(8,true),(10,true),(11,true)],12,[0,1,2,3,4,5])]
structure FlS (up:Int) (Qf:QuoD) where
 f:Nat
 c:Nat
 q:QuoD
 W:Nat→Prop
 ok:FlOk up f c q
 fin:QuoD.flush (f+1) up c q=Qf
 n3:q.reps.length≤5
 cb:c≤5000
theorem zw5 {up:Int} {f c:Nat} {q:QuoD} {m:MsgD} {r:List MsgD} {Qf:QuoD} (h:FlOk up f c q) (hf:QuoD.flush (f+1) up c q=Qf) (hn:q.net=m::r) (hd:QuoD.upB up m.src=false∨QuoD.upB up m.to=false):∃ g,f=g+1∧FlOk up g c { q with net:=r }∧QuoD.flush (g+1) up c { q with net:=r }=Qf:=by
 cases f with
 | zero=>rw [FlOk,hn] at h;cases h
 | succ g =>
   refine ⟨g,rfl,?_⟩;rw [FlOk,hn] at h;dsimp only at h;obtain ⟨h1,h2,h3,h4⟩:=h;rw [if_pos hd] at h4;refine ⟨h4,?_⟩;rw [←hf,QuoD.flush.eq_def (g+1+1)];simp only [hn]
   rw [if_neg (by omega),if_pos hd]
theorem qa1 {up:Int} {f c:Nat} {q:QuoD} {m:MsgD} {r:List MsgD} {Qf:QuoD} (h:FlOk up f c q) (hf:QuoD.flush (f+1) up c q=Qf) (hn:q.net=m::r) (hd:¬ (QuoD.upB up m.src=false∨QuoD.upB up m.to=false)):∃ g,f=g+1∧(HOk (q.rep m.to) m∧r.length+((q.rep m.to).handle m).2.length≤200∧(∀ i:Nat,i<q.reps.length→∀ r',r'=(if (i:Int)=m.to then ((q.rep m.to).handle m).1 else q.rep i)→0≤r'.commit∧r'.commit≤r'.j.log.length∧r'.j.log.length≤4096))∧FlOk up g (c+1) (QuoD.deliver { q with net:=r } m)∧QuoD.flush (g+1) up (c+1) (QuoD.deliver { q with net:=r } m)=Qf:=by
 cases f with
 | zero=>rw [FlOk,hn] at h;cases h
 | succ g =>
   refine ⟨g,rfl,?_⟩;rw [FlOk,hn] at h;dsimp only at h;obtain ⟨h1,h2,h3,h4⟩:=h;rw [if_neg hd] at h4;obtain ⟨a1,a2,a3,a4⟩:=h4;refine ⟨⟨a1,a2,a3⟩,a4,?_⟩;rw [←hf,QuoD.flush.eq_def (g+1+1)];simp only [hn]
   rw [if_neg (by omega),if_neg hd]
theorem qcm {up:Int} {f c:Nat} {q:QuoD} {m:MsgD} {r:List MsgD} (h:FlOk up f c q) (hn:q.net=m::r):c<5000∧(0≤m.src∧m.src<5)∧(0≤m.to∧m.to<q.reps.length):=by
 cases f with
 | zero=>rw [FlOk,hn] at h;cases h
 | succ g =>
   rw [FlOk,hn] at h;exact ⟨h.1,h.2.1,h.2.2.1⟩
theorem zeb {a b:Prop} [Decidable a] [Decidable b] {α:Type} {x y:α} (h:a↔b):(if a then x else y)=if b then x else y:=by
 by_cases hb:b
 ·rw [if_pos hb,if_pos (h.2 hb)]
 ·rw [if_neg hb,if_neg fun ha=>hb (h.1 ha)]
theorem zqg {up:Int} {f c:Nat} {q:QuoD} (h:q.net=[]):QuoD.flush (f+1) up c q=q:=by rw [QuoD.flush,h]
theorem zja {q:QuoD} {m:MsgD} {r:List MsgD} (hto:0≤m.to∧m.to<q.reps.length):QuoD.deliver { q with net:=r } m=((({ q with net:=r,reps:=q.reps.set m.to.toNat ((q.rep m.to).handle m).1 }:QuoD).send ((q.rep m.to).handle m).2).note):=rfl
theorem zcf (q:QuoD) (l:List MsgD):(q.send l).reps=q.reps∧∀ i,(q.send l).rep i=q.rep i:=⟨rfl,fun _=>rfl⟩
theorem zm3 (q:QuoD):q.note.reps=q.reps:=rfl
theorem zjt (up:Int) (hup:0≤up∧up<8) (f0_:Nat) (q:QuoD) (hF0:FlOk up f0_ 0 q) (hn30:q.reps.length≤5) (Qf:QuoD) (hE0:QuoD.flush (f0_+1) up 0 q=Qf) (W:Nat→Prop):Tri Tryz.prog 195 [.one (.ptr 0 0 0),.one (.val (.int .i64 up))] ([PQ q W]) (fun v m=>∃ (c:Int) (W':Nat→Prop),v=vI c∧m=[PQ Qf W']):=by
 obtain ⟨A,hA,FG⟩:=aF;change Tri _ _ _ [.obj (packO (qB q) W)] _;replace hA:=kH hA
 refine zad (D:=ordsFL) (fnO zu8 Tryz.func195) 56 (fun w0 own ps R hpl hR kE=>?_)
 refine kN ?_
 conv=>arg 3;cbv
 repeat' first
  | (simp only [*];conv=>arg 3;cbv)
 ((with_reducible refine kL ?_);refine zas 0 (α:=FlS up Qf) [6,7,8,9,10,11,12,13,14,15,16,17,18,19,20,21,22,23,24,25,26,27,28,29,30,31,32,33,34,35,36,37,38,39,40,41,42,43,44,45,46,47,48,49,50,51,52,53,54,55,56] (fun y=>[(5,.one (.val (.int .i64 (y.c:Int))))]) (fun y=>[.obj (packO (qB y.q) y.W)]) (fun y=>y.f) ⟨f0_,0,q,W,hF0,hE0,hn30,Nat.zero_le _⟩ (by cbv;simp) rfl (fun y=>rfl) (fun y z hy=>za0 hy trivial) rfl (fun y L' hL1 hL2=>?_))
 obtain ⟨f,c,q,W0,hF,hE,hn3,hcb⟩:=y;dsimp only
 refine zah 0 rfl rfl (fun x=>by simp [qB]) (fun x=>?_)
 change Eng.Good _ _ (Eng.St.mk _ _ [.own 209 [.gsl 1 (q.reps.length),.gsl 2 (q.net.length),.gsl 3 (q.done.length)],.grow 210 1 (q.reps.length) (x.xs.map ptrV),.grow 226 9 (q.net.length) (netV q.net x.ps),.grow 45 9 (q.done.length) (enVs q.done),.obj (poolO (repOs q.reps x.xs)),.obj (poolO (eOs q.net x.ps))]);obtain ⟨n,hn⟩:=nm (q.reps.length);rw [←hn];obtain ⟨PV,hPV⟩:=nm (x.xs.map ptrV);rw [←hPV];obtain ⟨nn,hnn⟩:=nm (q.net.length);rw [←hnn];obtain ⟨NV,hNV⟩:=nm (netV q.net x.ps);rw [←hNV];obtain ⟨nd,hnd⟩:=nm (q.done.length);rw [←hnd];obtain ⟨DV,hDV⟩:=nm (enVs q.done);rw [←hDV];obtain ⟨L,hL⟩:=nm (repOs q.reps x.xs);rw [←hL];obtain ⟨OR,hOR⟩:=nm (poolO L);rw [←hOR];obtain ⟨OE,hOE⟩:=nm (poolO (eOs q.net x.ps));rw [←hOE];obtain ⟨cI,hcI⟩:=nm ((c:Int));rw [←hcI]
 rcases hnet:q.net with _|⟨m,r⟩
 ·have f0:A.lt 0 (A.len nn)=false:=by rw [hA.out,hnn,hnet];rfl
  change Hid _ at hn hPV hnn hNV hnd hDV hL hOR hOE hcI;refine kN ?_
  repeat' (conv=>arg 3;try cbv);first
   | ((with_reducible refine kC ?_);(first|refine nM [.same 0,.same 1,.same 2,.same 3] trem ?_|(obtain ⟨g,hg,⟨hH,hl2,hcm⟩,hF2,hE2⟩:=qa1 hF hE hnet.out (hd3 rfl rfl);refine zb5 4 k2.toNat [.one (.ptr 7 0 0),.agg [.val (iv k0),.val (iv k1),.val (iv k2),.val (iv k3),.val (iv k4),.val (iv k5),.val (iv k6),.val (.bool k7),.val (.slice k8 k9 k10)]] hOR.out (by rfl) p2 rfl rfl (fun ρ hρ=>by { have e:ρ 7=_:=hρ;show [Value.pointer _,_]=[Value.pointer (some ⟨(ρ 7).1,(ρ 7).2+(0+0),none⟩),_];rw [e] }) (fun O1 hO1=>?_);refine zgy 5 0 (.obj (eO m p)) (fun _=>True) [.one (.ptr 7 0 0),.agg [.val (iv k0),.val (iv k1),.val (iv k2),.val (iv k3),.val (iv k4),.val (iv k5),.val (iv k6),.val (.bool k7),.val (.slice k8 k9 k10)]] e3.out (by rfl) rfl (fun _ _ h=>⟨fun _=>h,fun _ h=>h,rfl,fun _=>trivial,trivial⟩) rfl rfl (fun ρ _=>rfl) (fun O2 hO2=>?_);have tH:=hH.at (x.xs.getD k2.toNat (0,fun _=>False)) p (fun hk=>hok.nil 0 m p rfl rfl hk);rw [e4.out,←hk2.out] at tH;have hFF:=hF2;have hEE:=hE2;rw [zja hto,←hk2.out] at hFF hEE;rw [←hk2.out] at hl2 hcm;clear hF2 hE2;obtain ⟨rr,hrr⟩:=nm (((q.rep k2).handle m).1);obtain ⟨out,hout⟩:=nm (((q.rep k2).handle m).2);rw [←hrr,←hout] at tH hFF hEE;rw [←hout] at hl2;rw [←hrr] at hcm;unfold repO at tH;dsimp only at tH;rw [←hBR.out,←haa.out] at tH;refine kY [.same 7,.same 8] [7] tH (fun y=>?_);refine zb9 4 7 k2.toNat hO1 (by rfl) (by rfl) rfl (zdn p2) rfl (fun O3 hO3=>?_);refine zev 5 (show O2=poolO (voidO::eOs r qs) from hO2) (by rfl) rfl (fun O4 hO4=>?_);have z1:n=(q.reps.set k2.toNat rr).length:=(by rw [hn.out,List.length_set]);have z2:PV=(x.xs.set k2.toNat (aa,y.W)).map ptrV:=(by rw [hPV.out,haa.out];exact zie.symm);have z3:O3=poolO (repOs (q.reps.set k2.toNat rr) (x.xs.set k2.toNat (aa,y.W))):=(by rw [hO3,List.set_set,hL.out];exact congrArg poolO (zd4 q.reps x.xs k2.toNat rr (aa,y.W)));rw [z1,z2,z3,hO4,hnd.out,hDV.out,hn2.out,hN2.out];obtain ⟨q1,hq1⟩:∃ v9:QuoD,v9={ q with net:=r,reps:=q.reps.set k2.toNat rr }:=⟨_,rfl⟩;refine zdi 0 [1,2,3,4,5] (m:=qB { q with net:=r,reps:=q.reps.set k2.toNat rr }) ⟨x.xs.set k2.toNat (aa,y.W),qs,(by simp [x.hx]),hok.cons⟩ rfl rfl rfl (by exact ⟨rfl,rfl,rfl,rfl,rfl,rfl,rfl,rfl,rfl,rfl,rfl,rfl,trivial⟩) (zaj rfl) (fun W1=>?_);rw [←hq1] at hFF hEE ⊢;obtain ⟨OQ,hOQ⟩:=nm (packO (qB q1) W1);obtain ⟨ko,hko⟩:=nm (out.length);obtain ⟨OV,hOV⟩:=nm (netV out y.ps);obtain ⟨O5,hO5⟩:=nm (poolO (eOs out y.ps));rw [←hOQ,←hko,←hOV,←hO5];obtain ⟨E8,hE8⟩:=nm (eO m p);rw [←hE8];replace hE8:=kH hE8;have tS:TriX Tryz.prog 170 [.one (.ptr 0 0 0),.one (.gsl 1 ko)] [.obj OQ,.grow 226 9 ko OV,.obj O5] (.tup []) (fun W'=>[PQ (q1.send out) W',.grow 226 9 ko OV,.dead]):=(by rw [hOQ,hko,hOV,hO5];exact zfg q1 out y.ps y.ok (by rw [hq1];exact hl2) W1);obtain ⟨q2,hq2⟩:=nm (q1.send out);rw [←hq2] at tS hFF hEE;have hl:q2.reps.length=q.reps.length:=(by rw [hq2,(zcf q1 out).1,hq1];exact List.length_set);have hk2x:=hk2.out;have tN:∀ W2,TriX Tryz.prog 177 [.one (.ptr 0 0 0)] [PQ q2 W2] (.tup []) (fun W'=>[PQ q2.note W']):=(fun W2=>zdw q2 (by rw [hl];exact hn3) (fun i hi=>hcm i (by rw [←hl];exact hi) _ (by rw [hq2,(zcf q1 out).2,hq1];rw [show ({ q with net:=r,reps:=q.reps.set k2.toNat rr }:QuoD).rep (i:Int)=({ q with reps:=q.reps.set k2.toNat rr }:QuoD).rep (i:Int) from rfl,zdo (by omega)];exact zeb (by omega))) W2);change Hid _ at hFF hEE hq1 hq2 hOQ hko hOV hO5 hrr hout hl hg; clear hk2x hcm hl2 hO1 hO2 hO3 hO4 z1 z2 z3 tH hH;refine kN ?_)|(refine kX [.same 0,.same 9,.same 10] tS (fun W2=>?_);have tN2:=tN W2;clear tS tN;unfold PQ at tN2 ⊢;obtain ⟨OP,hOP⟩:=nm (packO (qB q2) W2);rw [←hOP] at tN2 ⊢;replace hOP:=kH hOP;refine kN ?_)|(refine kX [.same 0] tN2 (fun W3=>?_);clear tN2;obtain ⟨OP3,hOP3⟩:=nm (packO (qB q2.note) W3);rw [←hOP3];replace hOP3:=kH hOP3;refine kN ?_)))
   | (((with_reducible refine kA ?_);rw [hOP3.out];have h7:g<f:=(by rw [hg.out];exact Nat.lt_succ_self g);refine zaw ⟨rfl,rfl,rfl⟩ hL2 ⟨g,c+1,q2.note,W3,hFF.out,hEE.out,(by rw [zm3,hl.out];exact hn3),(by omega)⟩ h7 (by dsimp only;simp only [f7,←hcJ.out];cbv;simp) rfl (zaj rfl)))
   | (((with_reducible refine kA ?_);refine zev 5 e3.out (by rfl) rfl (fun O9 hO9=>?_);obtain ⟨g,hg,hF2,hE2⟩:=zw5 hF hE hnet.out (by first|exact hd1 rfl|exact hd2 rfl);rw [hn.out,hPV.out,hnd.out,hDV.out,hOR.out,hL.out,hn2.out,hN2.out,hO9];refine kK 0 [1,2,3,4,5] (m:=qB { q with net:=r }) ⟨x.xs,qs,x.hx,hok.cons⟩ (fun W'=>?_);have h7:g<f:=by { rw [hg];exact Nat.lt_succ_self g };refine zaw ⟨rfl,rfl,rfl⟩ hL2 ⟨g,c,{ q with net:=r },W',hF2,hE2,hn3,hcb⟩ h7 (by dsimp only;simp only [←hcI.out];cbv;simp) rfl (zaj rfl)))
   | ((with_reducible refine kG ?_);have hQ:Qf=q:=(by rw [←hE];exact zqg hnet);subst hQ;rw [hn.out,hPV.out,hnn.out,hNV.out,hnd.out,hDV.out,hOR.out,hL.out,hOE.out];refine kK 0 [1,2,3,4,5] (m:=qB Qf) x (fun W'=>?_);refine kO1 hR 1 ⟨_,W',rfl,rfl⟩)
   | simp only [*]
   | (split<;>(rename_i hsp;try simp only [FG] at hsp))
 ·obtain ⟨p,qs,hps⟩:∃ p qs,x.ps=p::qs:=by
   cases hx:x.ps with
   | nil=>have:=x.ok.len;rw [hx,hnet] at this;simp at this
   | cons p qs=>exact ⟨p,qs,rfl⟩
  obtain ⟨hc,hsrc,hto⟩:=qcm hF hnet
  have hok:Outs (m::r) (p::qs):=by rw [←hnet,←hps];exact x.ok
  obtain ⟨n2,hn2⟩:=nm (r.length);obtain ⟨N2,hN2⟩:=nm (netV r qs)
  have e1:nn=n2+1:=by rw [hnn,hnet,hn2];rfl
  have e2:NV=msgV m p++N2:=by rw [hNV,hnet,hps,hN2];simp [netV]
  have e3:OE=poolO (eO m p::eOs r qs):=by rw [hOE,hnet,hps];rfl
  have f0:A.lt 0 (A.len nn)=true:=by rw [hA.out,e1];simp [std]
  have f1:A.lt cI 5000=true:=by rw [hA.out,hcI];simp [std];omega
  obtain ⟨cJ,hcJ⟩:=nm (((c+1:Nat):Int))
  have f7:A.add .i64 cI 1=cJ:=by rw [hA.out,hcI,hcJ];exact (wrap64 (by omega) (by omega)).trans (by omega)
  have f2:A.inb 0 nn=true:=by rw [hA.out,e1];simp [std]
  obtain ⟨k0,hk0⟩:=nm (m.kind);obtain ⟨k1,hk1⟩:=nm (m.src);obtain ⟨k2,hk2⟩:=nm (m.to);obtain ⟨k3,hk3⟩:=nm (m.term);obtain ⟨k4,hk4⟩:=nm (m.index);obtain ⟨k5,hk5⟩:=nm (m.prev);obtain ⟨k6,hk6⟩:=nm (m.commit);obtain ⟨k7,hk7⟩:=nm (m.ok);obtain ⟨k8,hk8⟩:=nm (gA p);obtain ⟨k9,hk9⟩:=nm (m.ents.length);obtain ⟨k10,hk10⟩:=nm (gC p)
  have e4:msgV m p=[iv k0,iv k1,iv k2,iv k3,iv k4,iv k5,iv k6,.bool k7,.slice k8 k9 k10]:=by rw [hk0,hk1,hk2,hk3,hk4,hk5,hk6,hk7,hk8,hk9,hk10];rfl
  have f3:A.getN NV (A.idx 0 0 9) 0 9=some [iv k0,iv k1,iv k2,iv k3,iv k4,iv k5,iv k6,.bool k7,.slice k8 k9 k10]:=by
   rw [hA.out,hNV,hk0,hk1,hk2,hk3,hk4,hk5,hk6,hk7,hk8,hk9,hk10]
   have:=zp9 x.ok.len (show 0<q.net.length by rw [hnet];simp)
   refine Eq.trans this ?_;rw [hnet,hps];rfl
  have trem:TriM Tryz.prog 174 [.one (.ptr 0 0 0),.one (.val (.int .i64 0))] [.own 209 [.gsl 1 n,.gsl 2 nn,.gsl 3 nd],.grow 210 1 n PV,.grow 226 9 nn NV,.grow 45 9 nd DV] (.tup []) [.own 209 [.gsl 1 n,.gsl 2 n2,.gsl 3 nd],.grow 210 1 n PV,.grow 226 9 n2 N2,.grow 45 9 nd DV]:=by
   rw [e1,e2];exact zya n n2 nd PV N2 DV (msgV m p) rfl (by rw [hN2,hn2];exact zzj hok.cons.len)
  obtain ⟨bs,hbs⟩:∃ v9:Bool,v9=!(QuoD.upB up k1):=⟨_,rfl⟩;obtain ⟨bt,hbt⟩:∃ v9:Bool,v9=!(QuoD.upB up k2):=⟨_,rfl⟩
  have f4:A.eq (A.band .i64 (A.shr up (A.conv .u64 k1) .i64) 1) 0=bs:=by rw [hA.out,zxp hup (by rw [hk1];exact hsrc),hbs]
  have f4':A.eq (A.band .i64 (A.shr up (A.conv .u64 k2) .i64) 1) 0=bt:=by rw [hA.out,zxp hup (by rw [hk2];omega),hbt]
  have f5:A.le 0 (A.conv .u64 k1)=true:=by rw [hA.out,hk1];exact zqm hsrc
  have f6:A.le 0 (A.conv .u64 k2)=true:=by rw [hA.out,hk2];exact zqm (by omega)
  have p3:A.inb k2 n=true:=by rw [hA.out,hn,hk2];simp [std];omega
  obtain ⟨aa,haa⟩:=nm ((x.xs.getD k2.toNat (0,fun _=>False)).1)
  obtain ⟨BR,hBR⟩:=nm (RB (q.rep k2) (x.xs.getD k2.toNat (0,fun _=>False)).2)
  have p1:A.get PV (A.idx 0 k2 1) 0=some (.pointer (some ⟨aa,0,none⟩)):=by
   have h9:=p3
   rw [hA.out,hn] at h9;rw [hA.out,hPV,haa];exact zd5 x h9
  have p2:L[k2.toNat]?=some (atO BR (aa,0)):=by
   have h9:=p3
   rw [hA.out,hn] at h9;rw [hL,hBR,haa];exact zd3 x h9
  have hd1:bs=true→QuoD.upB up m.src=false∨QuoD.upB up m.to=false:=fun h=>by rw [hbs,hk1] at h;simpa using Or.inl h
  have hd2:bt=true→QuoD.upB up m.src=false∨QuoD.upB up m.to=false:=fun h=>by rw [hbt,hk2] at h;exact Or.inr (by simpa using h)
  have hd3:bs=false→bt=false→¬ (QuoD.upB up m.src=false∨QuoD.upB up m.to=false):=fun h h2=>by rw [hbs,hk1] at h;rw [hbt,hk2] at h2;simp at h h2;simp [h,h2]
  clear hbs hbt;change Hid _ at hn hPV hnn hNV hnd hDV hL hOR hOE hcI hn2 hN2 haa hBR hcJ hk0 hk1 hk2 hk3 hk4 hk5 hk6 hk7 hk8 hk9 hk10 e1 e2 e3 e4 hnet;refine kN ?_
  repeat' (conv=>arg 3;try cbv);first
   | ((with_reducible refine kC ?_);(first|refine nM [.same 0,.same 1,.same 2,.same 3] trem ?_|(obtain ⟨g,hg,⟨hH,hl2,hcm⟩,hF2,hE2⟩:=qa1 hF hE hnet.out (hd3 rfl rfl);refine zb5 4 k2.toNat [.one (.ptr 7 0 0),.agg [.val (iv k0),.val (iv k1),.val (iv k2),.val (iv k3),.val (iv k4),.val (iv k5),.val (iv k6),.val (.bool k7),.val (.slice k8 k9 k10)]] hOR.out (by rfl) p2 rfl rfl (fun ρ hρ=>by { have e:ρ 7=_:=hρ;show [Value.pointer _,_]=[Value.pointer (some ⟨(ρ 7).1,(ρ 7).2+(0+0),none⟩),_];rw [e] }) (fun O1 hO1=>?_);refine zgy 5 0 (.obj (eO m p)) (fun _=>True) [.one (.ptr 7 0 0),.agg [.val (iv k0),.val (iv k1),.val (iv k2),.val (iv k3),.val (iv k4),.val (iv k5),.val (iv k6),.val (.bool k7),.val (.slice k8 k9 k10)]] e3.out (by rfl) rfl (fun _ _ h=>⟨fun _=>h,fun _ h=>h,rfl,fun _=>trivial,trivial⟩) rfl rfl (fun ρ _=>rfl) (fun O2 hO2=>?_);have tH:=hH.at (x.xs.getD k2.toNat (0,fun _=>False)) p (fun hk=>hok.nil 0 m p rfl rfl hk);rw [e4.out,←hk2.out] at tH;have hFF:=hF2;have hEE:=hE2;rw [zja hto,←hk2.out] at hFF hEE;rw [←hk2.out] at hl2 hcm;clear hF2 hE2;obtain ⟨rr,hrr⟩:=nm (((q.rep k2).handle m).1);obtain ⟨out,hout⟩:=nm (((q.rep k2).handle m).2);rw [←hrr,←hout] at tH hFF hEE;rw [←hout] at hl2;rw [←hrr] at hcm;unfold repO at tH;dsimp only at tH;rw [←hBR.out,←haa.out] at tH;refine kY [.same 7,.same 8] [7] tH (fun y=>?_);refine zb9 4 7 k2.toNat hO1 (by rfl) (by rfl) rfl (zdn p2) rfl (fun O3 hO3=>?_);refine zev 5 (show O2=poolO (voidO::eOs r qs) from hO2) (by rfl) rfl (fun O4 hO4=>?_);have z1:n=(q.reps.set k2.toNat rr).length:=(by rw [hn.out,List.length_set]);have z2:PV=(x.xs.set k2.toNat (aa,y.W)).map ptrV:=(by rw [hPV.out,haa.out];exact zie.symm);have z3:O3=poolO (repOs (q.reps.set k2.toNat rr) (x.xs.set k2.toNat (aa,y.W))):=(by rw [hO3,List.set_set,hL.out];exact congrArg poolO (zd4 q.reps x.xs k2.toNat rr (aa,y.W)));rw [z1,z2,z3,hO4,hnd.out,hDV.out,hn2.out,hN2.out];obtain ⟨q1,hq1⟩:∃ v9:QuoD,v9={ q with net:=r,reps:=q.reps.set k2.toNat rr }:=⟨_,rfl⟩;refine zdi 0 [1,2,3,4,5] (m:=qB { q with net:=r,reps:=q.reps.set k2.toNat rr }) ⟨x.xs.set k2.toNat (aa,y.W),qs,(by simp [x.hx]),hok.cons⟩ rfl rfl rfl (by exact ⟨rfl,rfl,rfl,rfl,rfl,rfl,rfl,rfl,rfl,rfl,rfl,rfl,trivial⟩) (zaj rfl) (fun W1=>?_);rw [←hq1] at hFF hEE ⊢;obtain ⟨OQ,hOQ⟩:=nm (packO (qB q1) W1);obtain ⟨ko,hko⟩:=nm (out.length);obtain ⟨OV,hOV⟩:=nm (netV out y.ps);obtain ⟨O5,hO5⟩:=nm (poolO (eOs out y.ps));rw [←hOQ,←hko,←hOV,←hO5];obtain ⟨E8,hE8⟩:=nm (eO m p);rw [←hE8];replace hE8:=kH hE8;have tS:TriX Tryz.prog 170 [.one (.ptr 0 0 0),.one (.gsl 1 ko)] [.obj OQ,.grow 226 9 ko OV,.obj O5] (.tup []) (fun W'=>[PQ (q1.send out) W',.grow 226 9 ko OV,.dead]):=(by rw [hOQ,hko,hOV,hO5];exact zfg q1 out y.ps y.ok (by rw [hq1];exact hl2) W1);obtain ⟨q2,hq2⟩:=nm (q1.send out);rw [←hq2] at tS hFF hEE;have hl:q2.reps.length=q.reps.length:=(by rw [hq2,(zcf q1 out).1,hq1];exact List.length_set);have hk2x:=hk2.out;have tN:∀ W2,TriX Tryz.prog 177 [.one (.ptr 0 0 0)] [PQ q2 W2] (.tup []) (fun W'=>[PQ q2.note W']):=(fun W2=>zdw q2 (by rw [hl];exact hn3) (fun i hi=>hcm i (by rw [←hl];exact hi) _ (by rw [hq2,(zcf q1 out).2,hq1];rw [show ({ q with net:=r,reps:=q.reps.set k2.toNat rr }:QuoD).rep (i:Int)=({ q with reps:=q.reps.set k2.toNat rr }:QuoD).rep (i:Int) from rfl,zdo (by omega)];exact zeb (by omega))) W2);change Hid _ at hFF hEE hq1 hq2 hOQ hko hOV hO5 hrr hout hl hg; clear hk2x hcm hl2 hO1 hO2 hO3 hO4 z1 z2 z3 tH hH;refine kN ?_)|(refine kX [.same 0,.same 9,.same 10] tS (fun W2=>?_);have tN2:=tN W2;clear tS tN;unfold PQ at tN2 ⊢;obtain ⟨OP,hOP⟩:=nm (packO (qB q2) W2);rw [←hOP] at tN2 ⊢;replace hOP:=kH hOP;refine kN ?_)|(refine kX [.same 0] tN2 (fun W3=>?_);clear tN2;obtain ⟨OP3,hOP3⟩:=nm (packO (qB q2.note) W3);rw [←hOP3];replace hOP3:=kH hOP3;refine kN ?_)))
   | (((with_reducible refine kA ?_);rw [hOP3.out];have h7:g<f:=(by rw [hg.out];exact Nat.lt_succ_self g);refine zaw ⟨rfl,rfl,rfl⟩ hL2 ⟨g,c+1,q2.note,W3,hFF.out,hEE.out,(by rw [zm3,hl.out];exact hn3),(by omega)⟩ h7 (by dsimp only;simp only [f7,←hcJ.out];cbv;simp) rfl (zaj rfl)))
   | (((with_reducible refine kA ?_);refine zev 5 e3.out (by rfl) rfl (fun O9 hO9=>?_);obtain ⟨g,hg,hF2,hE2⟩:=zw5 hF hE hnet.out (by first|exact hd1 rfl|exact hd2 rfl);rw [hn.out,hPV.out,hnd.out,hDV.out,hOR.out,hL.out,hn2.out,hN2.out,hO9];refine kK 0 [1,2,3,4,5] (m:=qB { q with net:=r }) ⟨x.xs,qs,x.hx,hok.cons⟩ (fun W'=>?_);have h7:g<f:=by { rw [hg];exact Nat.lt_succ_self g };refine zaw ⟨rfl,rfl,rfl⟩ hL2 ⟨g,c,{ q with net:=r },W',hF2,hE2,hn3,hcb⟩ h7 (by dsimp only;simp only [←hcI.out];cbv;simp) rfl (zaj rfl)))
   | ((with_reducible refine kG ?_);have hQ:Qf=q:=(by rw [←hE];exact zqg hnet);subst hQ;rw [hn.out,hPV.out,hnn.out,hNV.out,hnd.out,hDV.out,hOR.out,hL.out,hOE.out];refine kK 0 [1,2,3,4,5] (m:=qB Qf) x (fun W'=>?_);refine kO1 hR 1 ⟨_,W',rfl,rfl⟩)
   | simp only [*]
   | (split<;>(rename_i hsp;try simp only [FG] at hsp))
end Go.Proofs.YtpigpajgjdcagaaGreat
