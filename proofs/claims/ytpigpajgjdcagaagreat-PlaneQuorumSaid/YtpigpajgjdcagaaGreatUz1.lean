/- Parts. -/
import Derived.Test.YtpigpajgjdcagaaGreatUp5
import Derived.Test.YtpigpajgjdcagaaGreatUma
set_option linter.unusedSimpArgs false
set_option linter.unusedVariables false
set_option maxRecDepth 100000
set_option maxHeartbeats 60000000
namespace Go.Proofs.YtpigpajgjdcagaaGreat
open Go.RowKit Eng
set_option maxRecDepth 10000
theorem qc9 {c:CfgD} {i:Nat} {fl:List Bool} {n:Int} {E:LogD} {p:PlaneD} (h:QInv c i fl n E p) {k:Nat} (hk:k<p.n) (hb:Bool) :
 ∃ (f : Int) (p1 : PlaneD) (fl1 : List Bool) (n1 : Int) (b : Bool), ((hb = false → ∀ W, TriX Tryz.prog 43 [.one (.ptr 0 0 0), .one (.val (.int .i64 (k : Int)))] [PP p W] (vI f) (fun W' => [PP p1 W'])) ∧ (hb = true → ∀ W, TriX Tryz.prog 44 [.one (.ptr 0 0 0), .one (.val (.int .i64 (k : Int)))] [PP p W] (vI f) (fun W' => [PP p1 W']))) ∧
   (f=0∧fl1=fl.set k (!b)∧n1=(if hb=true then n+1 else n-1)∧b=hb∨f=4∧fl1=fl∧n1=n∧b=!hb)∧QInv c i fl1 n1 E p1∧fl.getD k false=b:=by
 have hf:=h.fl k hk
 have hr:0≤(k:Int)∧(k:Int)<(p.n:Int):=by omega
 cases hu:p.isUp (k:Int) with
 | true =>
   rw [hu] at hf
   cases hb with
   | false=>exact ⟨0,_,fl.set k true,n-1,false,⟨fun _ W=>ze7 h.pl hk hu W,by nofun⟩,.inl ⟨rfl,rfl,rfl,rfl⟩,h.fail hk hu,hf⟩
   | true=>exact ⟨4,p,fl,n,false,⟨by nofun,fun _ W=>zok p h.pl.ok (k:Int) hr hu W⟩,.inr ⟨rfl,rfl,rfl,rfl⟩,h,hf⟩
 | false =>
   rw [hu] at hf
   cases hb with
   | false=>exact ⟨4,p,fl,n,true,⟨fun _ W=>zom p h.pl.ok (k:Int) hr hu W,by nofun⟩,.inr ⟨rfl,rfl,rfl,rfl⟩,h,hf⟩
   | true=>exact ⟨0,_,fl.set k false,n+1,true,⟨by nofun,fun _ W=>zoi h.pl hk hu W⟩,.inl ⟨rfl,rfl,rfl,rfl⟩,h.heal hk hu,hf⟩
theorem qda {c:CfgD} (ok:CfgOk c) {i:Nat} (hi:i<20) {fl:List Bool} {n:Int} {E:LogD} {p:PlaneD} (h:QInv c i fl n E p) {e:EnD} {m:Int} (he:e=noteE i m) (hm:0≤m∧m≤1073741824) :
 ∃ (cnt g : Int) (p2 : PlaneD) (E2 : LogD), (∀ W, TriX Tryz.prog 47 [.one (.ptr 0 0 0), enS e] [PP p W] (.tup [.one (.val (iv cnt)), .one (.val (iv g))]) (fun W' => [PP p2 W'])) ∧ QInv c (i + 1) fl n E2 p2 ∧ p2.ready = p.ready ∧
   (g=0∧p.ready=true∧p2.q.done.length=p.q.done.length+1∨g=16∧p.ready=false∧p2.q.done.length=p.q.done.length):=by
 subst he
 have okp:CfgOk p.c:=by rw [h.cc];exact ok
 have sok:StOk p.c p.s:=by rw [h.cc];exact h.st
 have ht:=fun W=>zju h.pl okp sok (t:=(i:Int)) (n:=m) (by omega) hm W
 cases hr:p.ready with
 | true =>
   obtain ⟨_,E',p',e1,e2,e3⟩:=h.up ok hi hr hm;rw [e1] at ht
   exact ⟨p.s.count,0,p',E',ht,e3,by rw [e3.rdy,←hr,h.rdy],.inl ⟨rfl,rfl,e2⟩⟩
 | false =>
   rw [noteDown hr] at ht;exact ⟨0,16,p,E,ht,h.down,hr,.inr ⟨rfl,rfl,rfl⟩⟩
theorem qdp {c:CfgD} (ok:CfgOk c) (hc:c.reps.length=3∨c.reps.length=1) (hu:∀ j:Nat,j<(PlaneD.new c).n→(PlaneD.new c).isUp (j:Int)=true) (hp:PlI [] (PlaneD.new c)):QInv c 0 (List.replicate c.reps.length false) c.reps.length [] (PlaneD.new c):=by
 have hn:(PlaneD.new c).n=c.reps.length:=rfl
 refine ⟨hp,rfl,zk4 ok,Int.le_refl 0,Nat.le_refl 0,by rw [List.length_replicate];rfl,fun k hk=>?_,?_⟩
 ·rw [hu k hk,List.getD_eq_getElem?_getD,List.getElem?_replicate]
  split<;>rfl
 ·rcases hc with h|h
  ·rw [ups3 (p:=PlaneD.new c) (by rw [hn,h]),hu 0 (by rw [hn,h];omega),hu 1 (by rw [hn,h];omega),hu 2 (by rw [hn,h];omega),h];rfl
  ·rw [ups1 (p:=PlaneD.new c) (by rw [hn,h]),hu 0 (by rw [hn,h];omega),h];rfl
end Go.Proofs.YtpigpajgjdcagaaGreat
namespace Go.Proofs.YtpigpajgjdcagaaGreat
open Go.RowKit Eng
theorem bandOne (d:Int):std.band .i64 d 1=0∨std.band .i64 d 1=1:=by
 have h:(BitVec.ofInt 64 d &&& BitVec.ofInt 64 1).toNat=(BitVec.ofInt 64 d).toNat % 2:=by
  rw [BitVec.toNat_and];exact Nat.and_one_is_mod _
 show IntKind.i64.wrap ((BitVec.ofInt 64 d &&& BitVec.ofInt 64 1).toNat:Int)=0∨IntKind.i64.wrap ((BitVec.ofInt 64 d &&& BitVec.ofInt 64 1).toNat:Int)=1
 rw [h]
 rcases Nat.mod_two_eq_zero_or_one (BitVec.ofInt 64 d).toNat with h2|h2<;>rw [h2]
 ·exact .inl rfl
 ·exact .inr rfl
structure QS (c:CfgD) (dn:Nat) where
 i:Nat
 hi:i≤dn
 fl:List Bool
 n:Int
 E:LogD
 p:PlaneD
 W:Nat→Prop
 inv:QInv c i fl n E p
theorem getb {fl:List Bool} {k n:Nat} (hl:fl.length=n) (hk:k<n):std.get (fl.map Value.bool) (std.idx 0 (k:Int) 1) 0=some (.bool (fl.getD k false)):=by
 have e:std.idx 0 (k:Int) 1=k:=by simp [std]
 rw [e]
 show (fl.map Value.bool)[k+0]?=_
 rw [Nat.add_zero,List.getElem?_map,List.getD_eq_getElem?_getD,List.getElem?_eq_getElem (by omega)]
 rfl
theorem setb {fl:List Bool} {k n:Nat} (hl:fl.length=n) (hk:k<n) (b:Bool):std.set (fl.map Value.bool) (std.idx 0 (k:Int) 1) 0 [.bool b]=some ((fl.set k b).map Value.bool):=by
 have e:std.idx 0 (k:Int) 1=k:=by simp [std]
 rw [e]
 show (if k+0+1≤(fl.map Value.bool).length then some ((fl.map Value.bool).take (k+0)++[.bool b]++(fl.map Value.bool).drop (k+0+1)) else none)=_
 rw [if_pos (by rw [List.length_map];omega),Nat.add_zero,List.map_set,List.set_eq_take_append_cons_drop,if_pos (by rw [List.length_map];omega)]
 simp
theorem zoq (hst:StNewP) (ln:Nat) (l:List Int) (hln:ln=l.length) (dn:Nat) (down:List Int) (hdn:dn=down.length):TriP Tryz.prog 8 [.one (.rsl 0 ln),.one (.rsl 1 dn)] [.rs ln (l.map iv),.rs dn (down.map iv)] (vB true):=by
 obtain ⟨A,hA,FG⟩:=aF;unfold GenF at FG;obtain ⟨V,hV⟩:=nm (l.map iv);rw [←hV];obtain ⟨bL,hbL⟩:=nm (decide (ln≤200));obtain ⟨D,hD⟩:=nm (down.map iv);rw [←hD];obtain ⟨bD,hbD⟩:=nm (decide (20<(dn:Int)))
 have tL:=zrk ln V
 rw [←hbL] at tL
 have ta:=zri hst
 have tc:bL=true∧bD=false→TriZ (β:={ c:CfgD // MkOk c }) Tryz.prog 35 [.one (.rsl 0 ln)] [.rs ln V] (fun y=>cfgGS 1 y.1) (fun y=>.rs ln V::cfgGM y.1):=by
  intro h;replace h:=h.1;rw [hbL] at h;have h2:=of_decide_eq_true h;rw [hV];exact zor ln l hln (by omega)
 have f0:A.eq 0 0=true:=by rw [hA];rfl
 have f1:A.lt 20 (A.len dn)=bD:=by rw [hA,hbD];rfl
 change Hid _ at hA hV hD hbL hbD hln hdn
 refine zad (D:=ords8) (fnO zae Tryz.func8) 152 (fun w0 own ps R hpl hR kE=>?_)
 refine kN ?_
 repeat' (conv=>arg 3;try cbv);first
  | ((with_reducible refine kC ?_);(first|refine nP [.same 0] tL ?_|refine nP [] ta ?_|(refine zfy [.same 0] [] (tc (by assumption)) (by rfl) ⟨rfl,trivial⟩ rfl rfl rfl rfl rfl (fun _=>rfl) (fun _=>rfl) (fun _=>⟨.inr rfl,rfl,rfl,rfl,rfl,rfl,rfl,trivial⟩) (fun _=>⟨.inr rfl,trivial⟩) (fun _=>Nat.le_of_ble_eq_true rfl) rfl (fun y=>?_);obtain ⟨c,ok,hc3⟩:=y;(try simp only [cfgGS,cfgGM]);(try dsimp only);obtain ⟨K,hK⟩:=nm (c.L);rw [←hK];change Hid _ at hK hc3 ok;refine kN ?_)))
  | ((with_reducible refine kG ?_);refine kO1 hR 2 ⟨rfl,rfl⟩)
  | simp only [*]
  | (split<;>(rename_i hsp;try simp only [FG] at hsp))
 have hdd:dn≤20:=by have h9:bL=true∧bD=false:=(by assumption);have h8:=h9.2;rw [hbD.out] at h8;have:=of_decide_eq_false h8;omega
 have ok2:=ok.out
 have lz:=ok2.lens hK.out
 have FC:=cfgF hA.out hK.out
 unfold CfgF at FC
 have hq:K.rl=c.reps.length:=by rw [hK.out];rfl
 have hn3:c.reps.length≤3:=by rcases hc3.out with h|h<;>omega
 have tq:TriX Tryz.prog 91 [.one (.val (.int .i64 (c.reps.length:Int)))] [] (.tup [.one (.ptr 0 0 0),.one (.val (iv 0))]) (fun W'=>[PQ (QuoD.new c.reps.length) W']):=by
  rcases hc3.out with h|h
  ·rw [h];exact zl1
  ·rw [h];exact zs5
 have tN:=zl3 hK.out rfl lz.1 lz.2.1 lz.2.2.1 lz.2.2.2.1 lz.2.2.2.2.1 lz.2.2.2.2.2 hst (by rw [hK.out];exact zxy ok2) c.reps.length hq hc3.out tq
 clear tq;obtain ⟨rn,hrn⟩:=nm ((K.rl:Int))
 have q0:A.len K.rl=rn:=by rw [hA.out,hrn];rfl
 obtain ⟨F0,hF0⟩:=nm ((List.replicate c.reps.length false).map Value.bool)
 have z1:A.cutok rn rn 1000000=true:=by rw [hA.out,hrn];simp [std];omega
 have z2:A.cutn 0 rn=K.rl:=by rw [hA.out,hrn];simp [std]
 have z3:A.zeros [.bool false] K.rl=F0:=by rw [hA.out,hF0,hq];simp [std]
 have hinv0:=qdp ok2 hc3.out (fun j hj=>qdg hc3.out hj) (qb2 hc3.out)
 change Hid _ at hF0 hrn hq;clear lz
 repeat' (conv=>arg 3;try cbv);first
  | ((with_reducible refine kC ?_);refine kX [.rd (.gsl 2 K.zl),.rd (.gsl 3 K.cl),.rd (.gsl 4 K.tl),.rd (.gsl 5 K.vl),.rd (.gsl 6 K.rl),.rd (.gsl 7 K.ol)] tN (fun W0=>?_);(try simp only [PP]);(try dsimp only);obtain ⟨O0,hO0⟩:=nm (packO (plB (PlaneD.new c)) W0);rw [←hO0];replace hO0:=kH hO0;refine kN ?_)
  | simp only [FG,FC, *]
  | (split<;>(rename_i hsp;try simp only [FG] at hsp))
 refine zas 0 (α:=QS c dn) [4,11,12,13,14,15,44,45,46,47,48,49,50,51,52,53,54,55,56,57,58,59,60,61,62,63,64,65,66,67,68,69,70,71,72,73,74,75,76,77,78,79,80,81,82,83,84,85,86,87,88,89,90,91,92,93,94,95,96,97,98,99,100,101,102,103,104,105,106,107,108,109,110,111,112,113,114,115,116,117,118,119,120,121,122,123,124,125,126,127,128,129,130,131,132,133,134,135,136,137,138,139,140,141,142,143,144,145,146,147,148,149,150,151,152] (fun y=>[(10,.one (.val (.int .i64 (Int.ofNat y.i)))),(9,.one (.val (.int .i64 y.n)))]) (fun y=>[.rs ln V,.rs dn D,.grow 75 1 K.zl K.zs,.grow 137 2 K.cl K.cs,.grow 143 7 K.tl K.ts,.grow 141 2 K.vl K.vs,.grow 3 1 K.rl K.rs,.grow 3 1 K.ol K.os,.own 33 [.val (iv c.regions),.gsl 2 K.zl,.gsl 3 K.cl,.gsl 4 K.tl,.gsl 5 K.vl,.gsl 6 K.rl,.gsl 7 K.ol,.val (iv c.blast),.val (iv c.lease),.val (iv c.bake)],.obj (packO (plB y.p) y.W),.grow 4 1 K.rl (y.fl.map Value.bool)]) (fun y=>dn-y.i) ⟨0,Nat.zero_le _,List.replicate c.reps.length false,rn,[],PlaneD.new c,W0,by rw [hrn.out,hq.out];exact hinv0⟩ (by simp only [q0];cbv;simp) (by dsimp only;rw [←hO0.out,←hF0.out]) (fun y=>rfl) (fun y z hy=>zb1 hy trivial trivial) rfl (fun y L' hL1 hL2=>?_)
 clear hinv0 tN hO0 hF0 z3 z1 z2;obtain ⟨i,hi,fl,n,E,p,W5,inv⟩:=y;dsimp only;obtain ⟨O5,hO5⟩:=nm (packO (plB p) W5);rw [←hO5];obtain ⟨F,hF⟩:=nm (fl.map Value.bool);rw [←hF]
 have hpn:p.n=c.reps.length:=by unfold PlaneD.n;rw [inv.cc]
 have hfl:=inv.fll
 rw [hpn] at hfl;replace hO5:=kH hO5
 by_cases hid:i<dn
 ·have q1:A.lt (Int.ofNat i) (A.len dn)=true:=by rw [hA.out];simp [std];omega
  have q2:A.inb (Int.ofNat i) dn=true:=by rw [hA.out];simp [std];omega
  obtain ⟨d,hd⟩:=nm (down.getD i 0)
  have q3:A.get D (A.idx 0 (Int.ofNat i) 1) 0=some (.int .i64 d):=by
   have:=rowF (fun x:Int=>[iv x]) 1 (fun _=>rfl) down 0 0 (by omega) (Int.ofNat i) (by rw [←hdn.out,←hA.out];exact q2)
   rw [←zhi] at this;rw [hA.out,hD.out,hd];exact this
  obtain ⟨kI,hkI⟩:=nm (d % rn)
  have hr1:=ok2.reps.1
  have hrq:=hrn.out
  rw [hq.out] at hrq
  obtain ⟨k,hk0⟩:∃ k:Nat,(k:Int)=kI:=⟨kI.toNat,by have:=Int.emod_nonneg d (show rn≠0 by omega);omega⟩
  have hk:k<p.n:=by have:=Int.emod_lt_of_pos d (show 0<rn by omega);omega
  have tm:TriP Tryz.prog 42 [.one (.val (.int .i64 d)),.one (.val (.int .i64 rn))] [] (vI kI):=by rw [hkI];exact zfj d rn (by omega) (by omega)
  obtain ⟨bt,hbt⟩:=nm (A.band .i64 d 1)
  have q4:A.band .i64 d 1=bt:=hbt.symm
  obtain ⟨hb,hhb⟩:∃ hb:Bool,bt=if hb=true then 1 else 0:=by
   rw [hbt,hA.out]
   rcases bandOne d with h|h<;>rw [h]
   ·exact ⟨false,rfl⟩
   ·exact ⟨true,rfl⟩
  obtain ⟨f,p1,fl1,n1,b,⟨tF,tH⟩,hcase,inv1,hbk⟩:=qc9 inv hk hb;rw [hk0] at tF tH;obtain ⟨e,he⟩:=nm (noteE (i:Int) ((i:Int) % 1000))
  have tn:TriP Tryz.prog 50 [.one (.val (.int .i64 (Int.ofNat i))),.one (.val (.int .i64 (Int.ofNat i)))] [] (enS e):=by rw [he];exact zhz (i:Int) (i:Int)
  obtain ⟨cnt,g,p2,E2,tP,inv2,hrd,hg⟩:=qda ok2 (by omega) inv1 he (by omega)
  have q6:A.inb kI K.rl=true:=by rw [hA.out,←hk0,hq.out];simp [std];omega
  have q7:A.get F (A.idx 0 kI 1) 0=some (.bool b):=by rw [hA.out,hF,←hk0,getb hfl (by omega),hbk]
  obtain ⟨F1,hF1⟩:=nm (fl1.map Value.bool)
  have q8:fl1=fl.set k (!b)→A.set F (A.idx 0 kI 1) 0 [.bool (!b)]=some F1:=by
   intro h;rw [hA.out,hF,hF1,h,←hk0];exact setb hfl (by omega) (!b)
  obtain ⟨m1,hm1⟩:=nm (p1.q.done.length);obtain ⟨m2,hm2⟩:=nm (p2.q.done.length);obtain ⟨V1,hV1⟩:=nm (enVs p1.q.done);obtain ⟨V2,hV2⟩:=nm (enVs p2.q.done)
  have hd1:p1.q.done.length≤40:=by rw [inv1.pl.done,List.length_map];exact inv1.pl.len
  have hd2:p2.q.done.length≤40:=by rw [inv2.pl.done,List.length_map];exact inv2.pl.len
  have tE1:∀ W,TriM Tryz.prog 49 [.one (.ptr 0 0 0)] [PP p1 W] (.one (.gsl 1 m1)) [PP p1 W,.grow 45 9 m1 V1]:=fun W=>by rw [hm1,hV1];exact zgj p1 (by omega) W
  have tE2:∀ W,TriM Tryz.prog 49 [.one (.ptr 0 0 0)] [PP p2 W] (.one (.gsl 1 m2)) [PP p2 W,.grow 45 9 m2 V2]:=fun W=>by rw [hm2,hV2];exact zgj p2 (by omega) W
  obtain ⟨rd,hrdv⟩:=nm (p1.ready);rw [←hrdv] at hrd hg
  have tR:∀ W,TriP Tryz.prog 51 [.one (.ptr 0 0 0)] [PP p2 W] (vB rd):=fun W=>by rw [←hrd];exact zhw p2 W inv2.pl.ok
  have hups:n1=p1.ups:=inv1.n
  have hup3:p1.ups≤3:=by
   unfold PlaneD.ups;refine Nat.le_trans (List.length_filter_le _ _) ?_;rw [List.length_range];exact inv1.pl.ok.n3
  have hrl:(fl1.length:Int)=rn:=by rw [inv1.fll,show p1.n=c.reps.length by unfold PlaneD.n;rw [inv1.cc]];omega
  have q12:A.mul .i64 2 n1=2 * n1:=by rw [hA.out];exact wrap64 (by omega) (by omega)
  obtain ⟨w1,hw1⟩:=nm (2 * n1);rw [←hw1] at q12
  have hrdy:=inv1.rdy
  rw [←hrdv,hrl,←hw1] at hrdy
  have q9:A.le w1 rn=!rd:=by rw [hA.out,hrdy];show decide (w1≤rn)=_;rw [Bool.eq_iff_iff];simp
  have q10:A.lt rn w1=rd:=by rw [hA.out,hrdy];rfl
  have q11:A.add .i64 (A.len m1) 1=((m1:Int)+1):=by rw [hA.out];exact wrap64 (by simp [std];omega) (by simp [std];omega)
  obtain ⟨w2,hw2⟩:=nm ((m1:Int)+1);rw [←hw2] at q11
  have q13:A.eq (A.len m2) w2=decide (m2=m1+1):=by rw [hA.out,hw2];show ((m2:Int) == (m1:Int)+1)=_;rw [Bool.eq_iff_iff];simp;omega
  have q14:A.sub .i64 (A.add .i64 n 1) (A.mul .i64 2 (A.sub .i64 1 bt))=(if hb=true then n+1 else n-1):=by
   have hn0:n=p.ups:=inv.n
   have hup4:p.ups≤3:=by
    unfold PlaneD.ups;refine Nat.le_trans (List.length_filter_le _ _) ?_;rw [List.length_range];exact inv.pl.ok.n3
   rw [hA.out,hhb]
   have e1:std.add .i64 n 1=n+1:=wrap64 (by omega) (by omega)
   rw [e1]
   cases hb
   ·have e2:std.mul .i64 2 (std.sub .i64 1 0)=2:=rfl
    show std.sub .i64 (n+1) (std.mul .i64 2 (std.sub .i64 1 0))=n-1
    rw [e2];exact (wrap64 (by omega) (by omega)).trans (by omega)
   ·have e2:std.mul .i64 2 (std.sub .i64 1 1)=0:=rfl
    show std.sub .i64 (n+1) (std.mul .i64 2 (std.sub .i64 1 1))=n+1
    rw [e2];exact (wrap64 (by omega) (by omega)).trans (by omega)
  have qst:A.add .i64 (Int.ofNat i) 1=Int.ofNat (i+1):=by rw [hA.out];exact za3 (n:=dn) hid (by omega)
  have y1:A.eq 4 0=false:=by rw [hA.out];rfl
  have y2:A.eq 0 16=false:=by rw [hA.out];rfl
  have y3:A.eq 16 16=true:=by rw [hA.out];rfl
  have y4:A.eq 16 0=false:=by rw [hA.out];rfl
  have y5:A.eq 1 0=false:=by rw [hA.out];rfl
  try clear hrdy hrl hup3 hups hd1 hd2 hk hr1 hrq hpn hfl hkI hd hbt hrd
  change Hid _ at inv2 he hF hF1 hm1 hm2 hV1 hV2 hw1 hw2 hrdv hk0;clear inv1
  cases hb
  ·replace hhb:bt=0:=hhb
   subst hhb
   rcases hcase with ⟨rfl,hf1,hn1,rfl⟩|⟨rfl,rfl,rfl,rfl⟩
   ·replace q8:=q8 hf1
    clear hf1;replace q14:=q14.trans hn1.symm;replace hn1:=kH hn1
    rcases hg with ⟨rfl,rfl,hm⟩|⟨rfl,rfl,hm⟩
    ·have q15:decide (m2=m1+1)=true:=decide_eq_true (by rw [hm1.out,hm2.out];exact hm)
     clear hm
     try simp only [Bool.not_true,Bool.not_false] at q9
     try simp only [Bool.not_true,Bool.not_false] at q7
     try simp only [Bool.not_true,Bool.not_false] at q8
     refine zab ⟨zae,zaa⟩ hA.out rfl rfl 12 ?_
     repeat' (conv=>arg 3;try cbv);first
      | ((with_reducible refine kC ?_);(first|(refine kP [] tm ?_;refine zab ⟨zae,zaa⟩ hA.out rfl rfl 12 ?_)|(have tz:=(tF rfl) W5;simp only [PP] at tz;rw [←hO5.out] at tz;refine kX [.same 9] tz (fun W6=>?_);(try simp only [PP]);(try dsimp only);obtain ⟨O6,hO6⟩:=nm (packO (plB p1) W6);rw [←hO6];replace hO6:=kH hO6;clear tz;refine zab ⟨zae,zaa⟩ hA.out rfl rfl 12 ?_)|(have tz:=(tH rfl) W5;simp only [PP] at tz;rw [←hO5.out] at tz;refine kX [.same 9] tz (fun W6=>?_);(try simp only [PP]);(try dsimp only);obtain ⟨O6,hO6⟩:=nm (packO (plB p1) W6);rw [←hO6];replace hO6:=kH hO6;clear tz;refine zab ⟨zae,zaa⟩ hA.out rfl rfl 12 ?_)|(have tz:=tE1 W6;simp only [PP] at tz;rw [←hO6.out] at tz;refine kM [.same 9] tz ?_;clear tz;refine zab ⟨zae,zaa⟩ hA.out rfl rfl 12 ?_)|(refine kP [] tn ?_;refine zab ⟨zae,zaa⟩ hA.out rfl rfl 12 ?_)|(have tz:=tP W6;simp only [PP] at tz;rw [←hO6.out] at tz;refine kX [.same 9] tz (fun W7=>?_);(try simp only [PP]);(try dsimp only);obtain ⟨O7,hO7⟩:=nm (packO (plB p2) W7);rw [←hO7];replace hO7:=kH hO7;clear tz;refine zab ⟨zae,zaa⟩ hA.out rfl rfl 12 ?_)|(have tz:=tR W7;simp only [PP] at tz;rw [←hO7.out] at tz;refine kP [.same 9] tz ?_;clear tz;refine zab ⟨zae,zaa⟩ hA.out rfl rfl 12 ?_)|(have tz:=tE2 W7;simp only [PP] at tz;rw [←hO7.out] at tz;refine kM [.same 9] tz ?_;clear tz;refine zab ⟨zae,zaa⟩ hA.out rfl rfl 12 ?_)))
      | (((with_reducible refine kA ?_);refine zaw ⟨rfl,rfl,rfl⟩ hL2 ⟨i+1,hid,_,_,E2,p2,W7,inv2.out⟩ (show dn-(i+1)<dn-i by omega) (by dsimp only;simp only [qst, *];cbv;simp) (by dsimp only;first|(rw [←hO7.out,←hF1.out];rfl)|(rw [←hO7.out,←hF.out];rfl)) (zaj rfl)))
      | (((with_reducible show Eng.Good _ _ (Eng.St.mk (Eng.It.ops _ _::_) _ _));refine zab ⟨zae,zaa⟩ hA.out rfl rfl 12 ?_))
      | (((with_reducible show Eng.Good _ _ (Eng.St.mk (Eng.It.head _ _ _ _ _ _ _::_) _ _));refine zab ⟨zae,zaa⟩ hA.out rfl rfl 12 ?_))
      | (((with_reducible show Eng.Good _ _ (Eng.St.mk (Eng.It.code _::_) _ _));refine zab ⟨zae,zaa⟩ hA.out rfl rfl 12 ?_))
      | (((with_reducible show Eng.Good _ _ (Eng.St.mk (Eng.It.blk _::_) _ _));refine zab ⟨zae,zaa⟩ hA.out rfl rfl 12 ?_))
      | simp only [FG,FC, *]
      | (split<;>(rename_i hsp;try simp only [FG] at hsp))
    ·have q15:decide (m2=m1+1)=false:=decide_eq_false (by rw [hm1.out,hm2.out,hm];omega)
     clear hm
     try simp only [Bool.not_true,Bool.not_false] at q9
     try simp only [Bool.not_true,Bool.not_false] at q7
     try simp only [Bool.not_true,Bool.not_false] at q8
     refine zab ⟨zae,zaa⟩ hA.out rfl rfl 12 ?_
     repeat' (conv=>arg 3;try cbv);first
      | ((with_reducible refine kC ?_);(first|(refine kP [] tm ?_;refine zab ⟨zae,zaa⟩ hA.out rfl rfl 12 ?_)|(have tz:=(tF rfl) W5;simp only [PP] at tz;rw [←hO5.out] at tz;refine kX [.same 9] tz (fun W6=>?_);(try simp only [PP]);(try dsimp only);obtain ⟨O6,hO6⟩:=nm (packO (plB p1) W6);rw [←hO6];replace hO6:=kH hO6;clear tz;refine zab ⟨zae,zaa⟩ hA.out rfl rfl 12 ?_)|(have tz:=(tH rfl) W5;simp only [PP] at tz;rw [←hO5.out] at tz;refine kX [.same 9] tz (fun W6=>?_);(try simp only [PP]);(try dsimp only);obtain ⟨O6,hO6⟩:=nm (packO (plB p1) W6);rw [←hO6];replace hO6:=kH hO6;clear tz;refine zab ⟨zae,zaa⟩ hA.out rfl rfl 12 ?_)|(have tz:=tE1 W6;simp only [PP] at tz;rw [←hO6.out] at tz;refine kM [.same 9] tz ?_;clear tz;refine zab ⟨zae,zaa⟩ hA.out rfl rfl 12 ?_)|(refine kP [] tn ?_;refine zab ⟨zae,zaa⟩ hA.out rfl rfl 12 ?_)|(have tz:=tP W6;simp only [PP] at tz;rw [←hO6.out] at tz;refine kX [.same 9] tz (fun W7=>?_);(try simp only [PP]);(try dsimp only);obtain ⟨O7,hO7⟩:=nm (packO (plB p2) W7);rw [←hO7];replace hO7:=kH hO7;clear tz;refine zab ⟨zae,zaa⟩ hA.out rfl rfl 12 ?_)|(have tz:=tR W7;simp only [PP] at tz;rw [←hO7.out] at tz;refine kP [.same 9] tz ?_;clear tz;refine zab ⟨zae,zaa⟩ hA.out rfl rfl 12 ?_)|(have tz:=tE2 W7;simp only [PP] at tz;rw [←hO7.out] at tz;refine kM [.same 9] tz ?_;clear tz;refine zab ⟨zae,zaa⟩ hA.out rfl rfl 12 ?_)))
      | (((with_reducible refine kA ?_);refine zaw ⟨rfl,rfl,rfl⟩ hL2 ⟨i+1,hid,_,_,E2,p2,W7,inv2.out⟩ (show dn-(i+1)<dn-i by omega) (by dsimp only;simp only [qst, *];cbv;simp) (by dsimp only;first|(rw [←hO7.out,←hF1.out];rfl)|(rw [←hO7.out,←hF.out];rfl)) (zaj rfl)))
      | (((with_reducible show Eng.Good _ _ (Eng.St.mk (Eng.It.ops _ _::_) _ _));refine zab ⟨zae,zaa⟩ hA.out rfl rfl 12 ?_))
      | (((with_reducible show Eng.Good _ _ (Eng.St.mk (Eng.It.head _ _ _ _ _ _ _::_) _ _));refine zab ⟨zae,zaa⟩ hA.out rfl rfl 12 ?_))
      | (((with_reducible show Eng.Good _ _ (Eng.St.mk (Eng.It.code _::_) _ _));refine zab ⟨zae,zaa⟩ hA.out rfl rfl 12 ?_))
      | (((with_reducible show Eng.Good _ _ (Eng.St.mk (Eng.It.blk _::_) _ _));refine zab ⟨zae,zaa⟩ hA.out rfl rfl 12 ?_))
      | simp only [FG,FC, *]
      | (split<;>(rename_i hsp;try simp only [FG] at hsp))
   ·clear q8 q14
    rcases hg with ⟨rfl,rfl,hm⟩|⟨rfl,rfl,hm⟩
    ·have q15:decide (m2=m1+1)=true:=decide_eq_true (by rw [hm1.out,hm2.out];exact hm)
     clear hm
     try simp only [Bool.not_true,Bool.not_false] at q9
     try simp only [Bool.not_true,Bool.not_false] at q7
     try simp only [Bool.not_true,Bool.not_false] at q8
     refine zab ⟨zae,zaa⟩ hA.out rfl rfl 12 ?_
     repeat' (conv=>arg 3;try cbv);first
      | ((with_reducible refine kC ?_);(first|(refine kP [] tm ?_;refine zab ⟨zae,zaa⟩ hA.out rfl rfl 12 ?_)|(have tz:=(tF rfl) W5;simp only [PP] at tz;rw [←hO5.out] at tz;refine kX [.same 9] tz (fun W6=>?_);(try simp only [PP]);(try dsimp only);obtain ⟨O6,hO6⟩:=nm (packO (plB p1) W6);rw [←hO6];replace hO6:=kH hO6;clear tz;refine zab ⟨zae,zaa⟩ hA.out rfl rfl 12 ?_)|(have tz:=(tH rfl) W5;simp only [PP] at tz;rw [←hO5.out] at tz;refine kX [.same 9] tz (fun W6=>?_);(try simp only [PP]);(try dsimp only);obtain ⟨O6,hO6⟩:=nm (packO (plB p1) W6);rw [←hO6];replace hO6:=kH hO6;clear tz;refine zab ⟨zae,zaa⟩ hA.out rfl rfl 12 ?_)|(have tz:=tE1 W6;simp only [PP] at tz;rw [←hO6.out] at tz;refine kM [.same 9] tz ?_;clear tz;refine zab ⟨zae,zaa⟩ hA.out rfl rfl 12 ?_)|(refine kP [] tn ?_;refine zab ⟨zae,zaa⟩ hA.out rfl rfl 12 ?_)|(have tz:=tP W6;simp only [PP] at tz;rw [←hO6.out] at tz;refine kX [.same 9] tz (fun W7=>?_);(try simp only [PP]);(try dsimp only);obtain ⟨O7,hO7⟩:=nm (packO (plB p2) W7);rw [←hO7];replace hO7:=kH hO7;clear tz;refine zab ⟨zae,zaa⟩ hA.out rfl rfl 12 ?_)|(have tz:=tR W7;simp only [PP] at tz;rw [←hO7.out] at tz;refine kP [.same 9] tz ?_;clear tz;refine zab ⟨zae,zaa⟩ hA.out rfl rfl 12 ?_)|(have tz:=tE2 W7;simp only [PP] at tz;rw [←hO7.out] at tz;refine kM [.same 9] tz ?_;clear tz;refine zab ⟨zae,zaa⟩ hA.out rfl rfl 12 ?_)))
      | (((with_reducible refine kA ?_);refine zaw ⟨rfl,rfl,rfl⟩ hL2 ⟨i+1,hid,_,_,E2,p2,W7,inv2.out⟩ (show dn-(i+1)<dn-i by omega) (by dsimp only;simp only [qst, *];cbv;simp) (by dsimp only;first|(rw [←hO7.out,←hF1.out];rfl)|(rw [←hO7.out,←hF.out];rfl)) (zaj rfl)))
      | (((with_reducible show Eng.Good _ _ (Eng.St.mk (Eng.It.ops _ _::_) _ _));refine zab ⟨zae,zaa⟩ hA.out rfl rfl 12 ?_))
      | (((with_reducible show Eng.Good _ _ (Eng.St.mk (Eng.It.head _ _ _ _ _ _ _::_) _ _));refine zab ⟨zae,zaa⟩ hA.out rfl rfl 12 ?_))
      | (((with_reducible show Eng.Good _ _ (Eng.St.mk (Eng.It.code _::_) _ _));refine zab ⟨zae,zaa⟩ hA.out rfl rfl 12 ?_))
      | (((with_reducible show Eng.Good _ _ (Eng.St.mk (Eng.It.blk _::_) _ _));refine zab ⟨zae,zaa⟩ hA.out rfl rfl 12 ?_))
      | simp only [FG,FC, *]
      | (split<;>(rename_i hsp;try simp only [FG] at hsp))
    ·have q15:decide (m2=m1+1)=false:=decide_eq_false (by rw [hm1.out,hm2.out,hm];omega)
     clear hm
     try simp only [Bool.not_true,Bool.not_false] at q9
     try simp only [Bool.not_true,Bool.not_false] at q7
     try simp only [Bool.not_true,Bool.not_false] at q8
     refine zab ⟨zae,zaa⟩ hA.out rfl rfl 12 ?_
     repeat' (conv=>arg 3;try cbv);first
      | ((with_reducible refine kC ?_);(first|(refine kP [] tm ?_;refine zab ⟨zae,zaa⟩ hA.out rfl rfl 12 ?_)|(have tz:=(tF rfl) W5;simp only [PP] at tz;rw [←hO5.out] at tz;refine kX [.same 9] tz (fun W6=>?_);(try simp only [PP]);(try dsimp only);obtain ⟨O6,hO6⟩:=nm (packO (plB p1) W6);rw [←hO6];replace hO6:=kH hO6;clear tz;refine zab ⟨zae,zaa⟩ hA.out rfl rfl 12 ?_)|(have tz:=(tH rfl) W5;simp only [PP] at tz;rw [←hO5.out] at tz;refine kX [.same 9] tz (fun W6=>?_);(try simp only [PP]);(try dsimp only);obtain ⟨O6,hO6⟩:=nm (packO (plB p1) W6);rw [←hO6];replace hO6:=kH hO6;clear tz;refine zab ⟨zae,zaa⟩ hA.out rfl rfl 12 ?_)|(have tz:=tE1 W6;simp only [PP] at tz;rw [←hO6.out] at tz;refine kM [.same 9] tz ?_;clear tz;refine zab ⟨zae,zaa⟩ hA.out rfl rfl 12 ?_)|(refine kP [] tn ?_;refine zab ⟨zae,zaa⟩ hA.out rfl rfl 12 ?_)|(have tz:=tP W6;simp only [PP] at tz;rw [←hO6.out] at tz;refine kX [.same 9] tz (fun W7=>?_);(try simp only [PP]);(try dsimp only);obtain ⟨O7,hO7⟩:=nm (packO (plB p2) W7);rw [←hO7];replace hO7:=kH hO7;clear tz;refine zab ⟨zae,zaa⟩ hA.out rfl rfl 12 ?_)|(have tz:=tR W7;simp only [PP] at tz;rw [←hO7.out] at tz;refine kP [.same 9] tz ?_;clear tz;refine zab ⟨zae,zaa⟩ hA.out rfl rfl 12 ?_)|(have tz:=tE2 W7;simp only [PP] at tz;rw [←hO7.out] at tz;refine kM [.same 9] tz ?_;clear tz;refine zab ⟨zae,zaa⟩ hA.out rfl rfl 12 ?_)))
      | (((with_reducible refine kA ?_);refine zaw ⟨rfl,rfl,rfl⟩ hL2 ⟨i+1,hid,_,_,E2,p2,W7,inv2.out⟩ (show dn-(i+1)<dn-i by omega) (by dsimp only;simp only [qst, *];cbv;simp) (by dsimp only;first|(rw [←hO7.out,←hF1.out];rfl)|(rw [←hO7.out,←hF.out];rfl)) (zaj rfl)))
      | (((with_reducible show Eng.Good _ _ (Eng.St.mk (Eng.It.ops _ _::_) _ _));refine zab ⟨zae,zaa⟩ hA.out rfl rfl 12 ?_))
      | (((with_reducible show Eng.Good _ _ (Eng.St.mk (Eng.It.head _ _ _ _ _ _ _::_) _ _));refine zab ⟨zae,zaa⟩ hA.out rfl rfl 12 ?_))
      | (((with_reducible show Eng.Good _ _ (Eng.St.mk (Eng.It.code _::_) _ _));refine zab ⟨zae,zaa⟩ hA.out rfl rfl 12 ?_))
      | (((with_reducible show Eng.Good _ _ (Eng.St.mk (Eng.It.blk _::_) _ _));refine zab ⟨zae,zaa⟩ hA.out rfl rfl 12 ?_))
      | simp only [FG,FC, *]
      | (split<;>(rename_i hsp;try simp only [FG] at hsp))
  ·replace hhb:bt=1:=hhb
   subst hhb
   rcases hcase with ⟨rfl,hf1,hn1,rfl⟩|⟨rfl,rfl,rfl,rfl⟩
   ·replace q8:=q8 hf1
    clear hf1;replace q14:=q14.trans hn1.symm;replace hn1:=kH hn1
    rcases hg with ⟨rfl,rfl,hm⟩|⟨rfl,rfl,hm⟩
    ·have q15:decide (m2=m1+1)=true:=decide_eq_true (by rw [hm1.out,hm2.out];exact hm)
     clear hm
     try simp only [Bool.not_true,Bool.not_false] at q9
     try simp only [Bool.not_true,Bool.not_false] at q7
     try simp only [Bool.not_true,Bool.not_false] at q8
     refine zab ⟨zae,zaa⟩ hA.out rfl rfl 12 ?_
     repeat' (conv=>arg 3;try cbv);first
      | ((with_reducible refine kC ?_);(first|(refine kP [] tm ?_;refine zab ⟨zae,zaa⟩ hA.out rfl rfl 12 ?_)|(have tz:=(tF rfl) W5;simp only [PP] at tz;rw [←hO5.out] at tz;refine kX [.same 9] tz (fun W6=>?_);(try simp only [PP]);(try dsimp only);obtain ⟨O6,hO6⟩:=nm (packO (plB p1) W6);rw [←hO6];replace hO6:=kH hO6;clear tz;refine zab ⟨zae,zaa⟩ hA.out rfl rfl 12 ?_)|(have tz:=(tH rfl) W5;simp only [PP] at tz;rw [←hO5.out] at tz;refine kX [.same 9] tz (fun W6=>?_);(try simp only [PP]);(try dsimp only);obtain ⟨O6,hO6⟩:=nm (packO (plB p1) W6);rw [←hO6];replace hO6:=kH hO6;clear tz;refine zab ⟨zae,zaa⟩ hA.out rfl rfl 12 ?_)|(have tz:=tE1 W6;simp only [PP] at tz;rw [←hO6.out] at tz;refine kM [.same 9] tz ?_;clear tz;refine zab ⟨zae,zaa⟩ hA.out rfl rfl 12 ?_)|(refine kP [] tn ?_;refine zab ⟨zae,zaa⟩ hA.out rfl rfl 12 ?_)|(have tz:=tP W6;simp only [PP] at tz;rw [←hO6.out] at tz;refine kX [.same 9] tz (fun W7=>?_);(try simp only [PP]);(try dsimp only);obtain ⟨O7,hO7⟩:=nm (packO (plB p2) W7);rw [←hO7];replace hO7:=kH hO7;clear tz;refine zab ⟨zae,zaa⟩ hA.out rfl rfl 12 ?_)|(have tz:=tR W7;simp only [PP] at tz;rw [←hO7.out] at tz;refine kP [.same 9] tz ?_;clear tz;refine zab ⟨zae,zaa⟩ hA.out rfl rfl 12 ?_)|(have tz:=tE2 W7;simp only [PP] at tz;rw [←hO7.out] at tz;refine kM [.same 9] tz ?_;clear tz;refine zab ⟨zae,zaa⟩ hA.out rfl rfl 12 ?_)))
      | (((with_reducible refine kA ?_);refine zaw ⟨rfl,rfl,rfl⟩ hL2 ⟨i+1,hid,_,_,E2,p2,W7,inv2.out⟩ (show dn-(i+1)<dn-i by omega) (by dsimp only;simp only [qst, *];cbv;simp) (by dsimp only;first|(rw [←hO7.out,←hF1.out];rfl)|(rw [←hO7.out,←hF.out];rfl)) (zaj rfl)))
      | (((with_reducible show Eng.Good _ _ (Eng.St.mk (Eng.It.ops _ _::_) _ _));refine zab ⟨zae,zaa⟩ hA.out rfl rfl 12 ?_))
      | (((with_reducible show Eng.Good _ _ (Eng.St.mk (Eng.It.head _ _ _ _ _ _ _::_) _ _));refine zab ⟨zae,zaa⟩ hA.out rfl rfl 12 ?_))
      | (((with_reducible show Eng.Good _ _ (Eng.St.mk (Eng.It.code _::_) _ _));refine zab ⟨zae,zaa⟩ hA.out rfl rfl 12 ?_))
      | (((with_reducible show Eng.Good _ _ (Eng.St.mk (Eng.It.blk _::_) _ _));refine zab ⟨zae,zaa⟩ hA.out rfl rfl 12 ?_))
      | simp only [FG,FC, *]
      | (split<;>(rename_i hsp;try simp only [FG] at hsp))
    ·have q15:decide (m2=m1+1)=false:=decide_eq_false (by rw [hm1.out,hm2.out,hm];omega)
     clear hm
     try simp only [Bool.not_true,Bool.not_false] at q9
     try simp only [Bool.not_true,Bool.not_false] at q7
     try simp only [Bool.not_true,Bool.not_false] at q8
     refine zab ⟨zae,zaa⟩ hA.out rfl rfl 12 ?_
     repeat' (conv=>arg 3;try cbv);first
      | ((with_reducible refine kC ?_);(first|(refine kP [] tm ?_;refine zab ⟨zae,zaa⟩ hA.out rfl rfl 12 ?_)|(have tz:=(tF rfl) W5;simp only [PP] at tz;rw [←hO5.out] at tz;refine kX [.same 9] tz (fun W6=>?_);(try simp only [PP]);(try dsimp only);obtain ⟨O6,hO6⟩:=nm (packO (plB p1) W6);rw [←hO6];replace hO6:=kH hO6;clear tz;refine zab ⟨zae,zaa⟩ hA.out rfl rfl 12 ?_)|(have tz:=(tH rfl) W5;simp only [PP] at tz;rw [←hO5.out] at tz;refine kX [.same 9] tz (fun W6=>?_);(try simp only [PP]);(try dsimp only);obtain ⟨O6,hO6⟩:=nm (packO (plB p1) W6);rw [←hO6];replace hO6:=kH hO6;clear tz;refine zab ⟨zae,zaa⟩ hA.out rfl rfl 12 ?_)|(have tz:=tE1 W6;simp only [PP] at tz;rw [←hO6.out] at tz;refine kM [.same 9] tz ?_;clear tz;refine zab ⟨zae,zaa⟩ hA.out rfl rfl 12 ?_)|(refine kP [] tn ?_;refine zab ⟨zae,zaa⟩ hA.out rfl rfl 12 ?_)|(have tz:=tP W6;simp only [PP] at tz;rw [←hO6.out] at tz;refine kX [.same 9] tz (fun W7=>?_);(try simp only [PP]);(try dsimp only);obtain ⟨O7,hO7⟩:=nm (packO (plB p2) W7);rw [←hO7];replace hO7:=kH hO7;clear tz;refine zab ⟨zae,zaa⟩ hA.out rfl rfl 12 ?_)|(have tz:=tR W7;simp only [PP] at tz;rw [←hO7.out] at tz;refine kP [.same 9] tz ?_;clear tz;refine zab ⟨zae,zaa⟩ hA.out rfl rfl 12 ?_)|(have tz:=tE2 W7;simp only [PP] at tz;rw [←hO7.out] at tz;refine kM [.same 9] tz ?_;clear tz;refine zab ⟨zae,zaa⟩ hA.out rfl rfl 12 ?_)))
      | (((with_reducible refine kA ?_);refine zaw ⟨rfl,rfl,rfl⟩ hL2 ⟨i+1,hid,_,_,E2,p2,W7,inv2.out⟩ (show dn-(i+1)<dn-i by omega) (by dsimp only;simp only [qst, *];cbv;simp) (by dsimp only;first|(rw [←hO7.out,←hF1.out];rfl)|(rw [←hO7.out,←hF.out];rfl)) (zaj rfl)))
      | (((with_reducible show Eng.Good _ _ (Eng.St.mk (Eng.It.ops _ _::_) _ _));refine zab ⟨zae,zaa⟩ hA.out rfl rfl 12 ?_))
      | (((with_reducible show Eng.Good _ _ (Eng.St.mk (Eng.It.head _ _ _ _ _ _ _::_) _ _));refine zab ⟨zae,zaa⟩ hA.out rfl rfl 12 ?_))
      | (((with_reducible show Eng.Good _ _ (Eng.St.mk (Eng.It.code _::_) _ _));refine zab ⟨zae,zaa⟩ hA.out rfl rfl 12 ?_))
      | (((with_reducible show Eng.Good _ _ (Eng.St.mk (Eng.It.blk _::_) _ _));refine zab ⟨zae,zaa⟩ hA.out rfl rfl 12 ?_))
      | simp only [FG,FC, *]
      | (split<;>(rename_i hsp;try simp only [FG] at hsp))
   ·clear q8 q14
    rcases hg with ⟨rfl,rfl,hm⟩|⟨rfl,rfl,hm⟩
    ·have q15:decide (m2=m1+1)=true:=decide_eq_true (by rw [hm1.out,hm2.out];exact hm)
     clear hm
     try simp only [Bool.not_true,Bool.not_false] at q9
     try simp only [Bool.not_true,Bool.not_false] at q7
     try simp only [Bool.not_true,Bool.not_false] at q8
     refine zab ⟨zae,zaa⟩ hA.out rfl rfl 12 ?_
     repeat' (conv=>arg 3;try cbv);first
      | ((with_reducible refine kC ?_);(first|(refine kP [] tm ?_;refine zab ⟨zae,zaa⟩ hA.out rfl rfl 12 ?_)|(have tz:=(tF rfl) W5;simp only [PP] at tz;rw [←hO5.out] at tz;refine kX [.same 9] tz (fun W6=>?_);(try simp only [PP]);(try dsimp only);obtain ⟨O6,hO6⟩:=nm (packO (plB p1) W6);rw [←hO6];replace hO6:=kH hO6;clear tz;refine zab ⟨zae,zaa⟩ hA.out rfl rfl 12 ?_)|(have tz:=(tH rfl) W5;simp only [PP] at tz;rw [←hO5.out] at tz;refine kX [.same 9] tz (fun W6=>?_);(try simp only [PP]);(try dsimp only);obtain ⟨O6,hO6⟩:=nm (packO (plB p1) W6);rw [←hO6];replace hO6:=kH hO6;clear tz;refine zab ⟨zae,zaa⟩ hA.out rfl rfl 12 ?_)|(have tz:=tE1 W6;simp only [PP] at tz;rw [←hO6.out] at tz;refine kM [.same 9] tz ?_;clear tz;refine zab ⟨zae,zaa⟩ hA.out rfl rfl 12 ?_)|(refine kP [] tn ?_;refine zab ⟨zae,zaa⟩ hA.out rfl rfl 12 ?_)|(have tz:=tP W6;simp only [PP] at tz;rw [←hO6.out] at tz;refine kX [.same 9] tz (fun W7=>?_);(try simp only [PP]);(try dsimp only);obtain ⟨O7,hO7⟩:=nm (packO (plB p2) W7);rw [←hO7];replace hO7:=kH hO7;clear tz;refine zab ⟨zae,zaa⟩ hA.out rfl rfl 12 ?_)|(have tz:=tR W7;simp only [PP] at tz;rw [←hO7.out] at tz;refine kP [.same 9] tz ?_;clear tz;refine zab ⟨zae,zaa⟩ hA.out rfl rfl 12 ?_)|(have tz:=tE2 W7;simp only [PP] at tz;rw [←hO7.out] at tz;refine kM [.same 9] tz ?_;clear tz;refine zab ⟨zae,zaa⟩ hA.out rfl rfl 12 ?_)))
      | (((with_reducible refine kA ?_);refine zaw ⟨rfl,rfl,rfl⟩ hL2 ⟨i+1,hid,_,_,E2,p2,W7,inv2.out⟩ (show dn-(i+1)<dn-i by omega) (by dsimp only;simp only [qst, *];cbv;simp) (by dsimp only;first|(rw [←hO7.out,←hF1.out];rfl)|(rw [←hO7.out,←hF.out];rfl)) (zaj rfl)))
      | (((with_reducible show Eng.Good _ _ (Eng.St.mk (Eng.It.ops _ _::_) _ _));refine zab ⟨zae,zaa⟩ hA.out rfl rfl 12 ?_))
      | (((with_reducible show Eng.Good _ _ (Eng.St.mk (Eng.It.head _ _ _ _ _ _ _::_) _ _));refine zab ⟨zae,zaa⟩ hA.out rfl rfl 12 ?_))
      | (((with_reducible show Eng.Good _ _ (Eng.St.mk (Eng.It.code _::_) _ _));refine zab ⟨zae,zaa⟩ hA.out rfl rfl 12 ?_))
      | (((with_reducible show Eng.Good _ _ (Eng.St.mk (Eng.It.blk _::_) _ _));refine zab ⟨zae,zaa⟩ hA.out rfl rfl 12 ?_))
      | simp only [FG,FC, *]
      | (split<;>(rename_i hsp;try simp only [FG] at hsp))
    ·have q15:decide (m2=m1+1)=false:=decide_eq_false (by rw [hm1.out,hm2.out,hm];omega)
     clear hm
     try simp only [Bool.not_true,Bool.not_false] at q9
     try simp only [Bool.not_true,Bool.not_false] at q7
     try simp only [Bool.not_true,Bool.not_false] at q8
     refine zab ⟨zae,zaa⟩ hA.out rfl rfl 12 ?_
     repeat' (conv=>arg 3;try cbv);first
      | ((with_reducible refine kC ?_);(first|(refine kP [] tm ?_;refine zab ⟨zae,zaa⟩ hA.out rfl rfl 12 ?_)|(have tz:=(tF rfl) W5;simp only [PP] at tz;rw [←hO5.out] at tz;refine kX [.same 9] tz (fun W6=>?_);(try simp only [PP]);(try dsimp only);obtain ⟨O6,hO6⟩:=nm (packO (plB p1) W6);rw [←hO6];replace hO6:=kH hO6;clear tz;refine zab ⟨zae,zaa⟩ hA.out rfl rfl 12 ?_)|(have tz:=(tH rfl) W5;simp only [PP] at tz;rw [←hO5.out] at tz;refine kX [.same 9] tz (fun W6=>?_);(try simp only [PP]);(try dsimp only);obtain ⟨O6,hO6⟩:=nm (packO (plB p1) W6);rw [←hO6];replace hO6:=kH hO6;clear tz;refine zab ⟨zae,zaa⟩ hA.out rfl rfl 12 ?_)|(have tz:=tE1 W6;simp only [PP] at tz;rw [←hO6.out] at tz;refine kM [.same 9] tz ?_;clear tz;refine zab ⟨zae,zaa⟩ hA.out rfl rfl 12 ?_)|(refine kP [] tn ?_;refine zab ⟨zae,zaa⟩ hA.out rfl rfl 12 ?_)|(have tz:=tP W6;simp only [PP] at tz;rw [←hO6.out] at tz;refine kX [.same 9] tz (fun W7=>?_);(try simp only [PP]);(try dsimp only);obtain ⟨O7,hO7⟩:=nm (packO (plB p2) W7);rw [←hO7];replace hO7:=kH hO7;clear tz;refine zab ⟨zae,zaa⟩ hA.out rfl rfl 12 ?_)|(have tz:=tR W7;simp only [PP] at tz;rw [←hO7.out] at tz;refine kP [.same 9] tz ?_;clear tz;refine zab ⟨zae,zaa⟩ hA.out rfl rfl 12 ?_)|(have tz:=tE2 W7;simp only [PP] at tz;rw [←hO7.out] at tz;refine kM [.same 9] tz ?_;clear tz;refine zab ⟨zae,zaa⟩ hA.out rfl rfl 12 ?_)))
      | (((with_reducible refine kA ?_);refine zaw ⟨rfl,rfl,rfl⟩ hL2 ⟨i+1,hid,_,_,E2,p2,W7,inv2.out⟩ (show dn-(i+1)<dn-i by omega) (by dsimp only;simp only [qst, *];cbv;simp) (by dsimp only;first|(rw [←hO7.out,←hF1.out];rfl)|(rw [←hO7.out,←hF.out];rfl)) (zaj rfl)))
      | (((with_reducible show Eng.Good _ _ (Eng.St.mk (Eng.It.ops _ _::_) _ _));refine zab ⟨zae,zaa⟩ hA.out rfl rfl 12 ?_))
      | (((with_reducible show Eng.Good _ _ (Eng.St.mk (Eng.It.head _ _ _ _ _ _ _::_) _ _));refine zab ⟨zae,zaa⟩ hA.out rfl rfl 12 ?_))
      | (((with_reducible show Eng.Good _ _ (Eng.St.mk (Eng.It.code _::_) _ _));refine zab ⟨zae,zaa⟩ hA.out rfl rfl 12 ?_))
      | (((with_reducible show Eng.Good _ _ (Eng.St.mk (Eng.It.blk _::_) _ _));refine zab ⟨zae,zaa⟩ hA.out rfl rfl 12 ?_))
      | simp only [FG,FC, *]
      | (split<;>(rename_i hsp;try simp only [FG] at hsp))
 ·have q1:A.lt (Int.ofNat i) (A.len dn)=false:=by rw [hA.out];simp [std];omega
  change Hid _ at hF hfl hpn;refine kN ?_
  repeat' (conv=>arg 3;try cbv);first
   | ((with_reducible refine kC ?_);refine nP [] ta ?_)
   | ((with_reducible refine kG ?_);refine kO1 hR 2 ⟨rfl,rfl⟩)
   | simp only [FG,FC, *]
   | (split<;>(rename_i hsp;try simp only [FG] at hsp))
end Go.Proofs.YtpigpajgjdcagaaGreat
