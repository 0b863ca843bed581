/- Parts. -/
import Derived.Test.YtpigpajgjdcagaaGreatVl4
import Derived.Test.YtpigpajgjdcagaaGreatVf
set_option linter.unusedSimpArgs false
set_option linter.unusedVariables false
set_option maxRecDepth 100000
set_option maxHeartbeats 60000000
namespace Go.Proofs.YtpigpajgjdcagaaGreat
open Go.RowKit Eng
namespace Eng
theorem zy6 {P:Program} {f:FuncId} {args:List SV} {v:SV} {ι κ:Type} {m:ι→List MB} {m':κ→List MB} {W:Nat→Prop} (hgo:Goes P f) (hne:∀ x,m x≠[]) (hne':∀ y,m' y≠[]) (hrd:∀ y,∀ b∈m' y,b.rd=false) (hv:okV1 1 v=true) (ha:okA1 1 args=true) (h:∀ x,Tri P f args (m x) fun u M=>u=v∧∃ y,M=m' y):TriX P f args [.obj (packO m W)] v fun W'=>[.obj (packO m' W')]:=by
 refine ⟨hgo,fun w0 own ρ w H _=>?_⟩
 obtain ⟨x,h0,ρx,h1,h2,h3,h4⟩:=H.blk 0 _ rfl
 have hlen:1≤(m x).length:=by
  cases hm:m x with
  | nil=>exact absurd hm (hne x)
  | cons b r=>simp
 have Hx:Sat w0 own ρx (m x) w:=⟨H.gr,h2,fun b hb=>(h0 b hb).2,fun j b hb=>⟨fun i hi=>(H.fre 0 _ rfl).1 i ((h3 i).2 ⟨j,b,hb,hi⟩),fun i hi=>by have:=hi.1;rw [(h0 b (List.mem_of_getElem? hb)).1] at this;cases this⟩,
  fun j k b c hb hc hne i hw=>⟨fun hc'=>h4 j k b c hb hc hne i hw hc',fun hc'=>by have:=hc'.1;rw [(h0 c (List.mem_of_getElem? hc)).1] at this;cases this⟩⟩
 have hag:∀ j,j<1→ρx j=ρ j:=fun j hj=>by obtain rfl:j=0:=(by omega);exact h1
 have hargs:args.map (concV ρ)=args.map (concV ρx):=List.map_congr_left fun u hu=>(zav hag (za6 ha u hu)).symm
 rw [hargs]
 refine ((h x).2 w0 own ρx w Hx fun u hu=>(za6 ha u hu).mono hlen).mono ?_
 rintro e w' ⟨v',mem',ρ',rfl,⟨rfl,y,rfl⟩,_,_,hag',H'⟩
 have e0:ρ' 0=ρ 0:=by rw [←hag' 0 (by omega),h1]
 obtain ⟨W',hW'⟩:∃ W':Nat→Prop,W'=fun i=>∃ (j:Nat) (b:MB),(m' y)[j]?=some b∧b.wf (ρ' j) i:=⟨_,rfl⟩
 have get:∀ (j:Nat) (b:MB),([MB.obj (packO m' W')]:List MB)[j]?=some b→j=0∧b=.obj (packO m' W'):=fun j b hb=>by
  rcases j with _|j
  ·exact ⟨rfl,by simpa using hb.symm⟩
  ·simp at hb
 refine ⟨_,_,ρ,by rw [zav (n:=1) (fun j hj=>by obtain rfl:j=0:=(by omega);exact e0) (zbr hv)],⟨rfl,W',rfl⟩,zbr hv,Nat.le_refl _,fun _ _=>rfl,H'.gr,fun j b hb=>?_,fun b hb=>?_,fun j b hb=>?_,fun j k b c hb hc hne=>?_⟩
 ·obtain ⟨rfl,rfl⟩:=get j b hb
  exact ⟨y,fun b hb=>⟨hrd y b hb,H'.ok b hb⟩,ρ',e0,H'.blk,fun i=>by rw [hW'],fun j k b c hb hc hne i hw=>(H'.apt j k b c hb hc hne i hw).1⟩
 ·obtain ⟨j,hj⟩:=List.getElem?_of_mem hb
  obtain ⟨rfl,rfl⟩:=get j b hj;trivial
 ·obtain ⟨rfl,rfl⟩:=get j b hb
  refine ⟨fun i hi=>?_,fun i hi=>by cases hi.1⟩
  have hi':W' i:=hi
  rw [hW'] at hi';obtain ⟨j,b,hb,hw⟩:=hi';exact (H'.fre j b hb).1 i hw
 ·obtain ⟨rfl,rfl⟩:=get j b hb
  obtain ⟨rfl,rfl⟩:=get k c hc;exact absurd rfl hne
end Eng
def zoneReg (c:CfgD) (i:Nat):Int:=c.zones.getD (c.reps.getD i 0).toNat 0
def loseGo (p0:PlaneD) (reg:Int):Nat→Nat→Int→QuoD→Int→PlaneD × Int
 | 0,_,up,q,k=>({ p0 with up:=up,q:=q },k)
 | m+1,i,up,q,k=>if zoneReg p0.c i=reg∧({ p0 with up:=up,q:=q }:PlaneD).isUp (i:Int)=true then loseGo p0 reg m (i+1) (up-2 ^ i) (q.crash (i:Int)) (k+1) else loseGo p0 reg m (i+1) up q k
def PlaneD.lose (p:PlaneD) (reg:Int):PlaneD × Int:=loseGo p reg p.n 0 p.up p.q 0
theorem zox (p:PlaneD) (hp:PlOk p) (i:Int) (hi:0≤i∧i<p.n) (hu:p.isUp i=false) (W:Nat→Prop):TriP Tryz.prog 43 [.one (.ptr 0 0 0),.one (.val (.int .i64 i))] (plB p W) (vI 4):=by
 obtain ⟨A,hA,FG⟩:=aF;unfold plB PQ;obtain ⟨K,hK⟩:=nm (p.c.L);obtain ⟨S,hS⟩:=nm (p.s.L);obtain ⟨OQ,hOQ⟩:=nm (packO (qB p.q) W)
 have hrl:K.rl=p.n:=by rw [hK];rfl
 have f0:A.lt i 0=false:=by
  rw [hA];simp [std];omega
 have f1:A.le (A.len K.rl) i=false:=by
  rw [hA];rw [hrl];simp [std];omega
 have f2:A.le 0 i=true:=by
  rw [hA];simp [std];omega
 have th:TriP Tryz.prog 95 [.one (.ptr 0 0 0),.one (.val (.int .i64 i))] [.own 151 [.val (iv p.c.regions),.gsl 1 K.zl,.gsl 2 K.cl,.gsl 3 K.tl,.gsl 4 K.vl,.gsl 5 K.rl,.gsl 6 K.ol,.val (iv p.c.blast),.val (iv p.c.lease),.val (iv p.c.bake),.ptr 7 0 0,.val (iv p.up),.val (iv p.s.tick),.val (iv p.s.count),.gsl 8 S.tl,.gsl 9 S.cl,.val (iv p.s.proven),.val (iv p.s.evac),.val (iv p.s.low),.val (iv p.s.high)],.grow 75 1 K.zl K.zs,.grow 137 2 K.cl K.cs,.grow 143 7 K.tl K.ts,.grow 141 2 K.vl K.vs,.grow 3 1 K.rl K.rs,.grow 3 1 K.ol K.os,.obj OQ,.grow 134 12 S.tl S.ts,.grow 167 4 S.cl S.cs] (vB false):=by
  have:=zbi p W hp i
  unfold plB PQ at this;rw [←hK,←hS,←hOQ,hu] at this;exact this
 rw [←hK,←hS,←hOQ];replace hA:=kH hA;replace hK:=kH hK;replace hS:=kH hS;replace hOQ:=kH hOQ;replace hrl:=kH hrl;replace hu:=kH hu
 refine zad (D:=ords43) (fnO zhi Tryz.func43) 37 (fun w0 own ps R hpl hR kE=>?_)
 refine kN ?_
 conv=>arg 3;cbv
 repeat' first
  | ((with_reducible refine kC ?_);refine nP [.same 0,.same 1,.same 2,.same 3,.same 4,.same 5,.same 6,.same 7,.same 8,.same 9] th ?_;conv=>arg 3;cbv)
  | ((with_reducible refine kG ?_);refine kO1 hR 10 ⟨rfl,rfl⟩)
  | (simp only [*];conv=>arg 3;cbv)
  | (split<;>(rename_i hsp;try simp only [FG] at hsp)<;>conv=>arg 3;cbv)
theorem zow (p:PlaneD) (hp:PlOk p) (i:Int) (hi:0≤i∧i<p.n) (hu:p.isUp i=true) (hC:KOk (p.q.rep i)) (hcm:∀ j:Nat,j<p.q.reps.length→∀ r',r'=(if (j:Int)=i then (p.q.rep i).crash else p.q.rep j)→0≤r'.commit∧r'.commit≤r'.j.log.length∧r'.j.log.length≤4096) (W:Nat→Prop):TriX Tryz.prog 43 [.one (.ptr 0 0 0),.one (.val (.int .i64 i))] (plB p W) (vI 0) (fun W'=>plB { p with up:=p.up-2 ^ i.toNat,q:=p.q.crash i } W'):=by
 obtain ⟨A,hA,FG⟩:=aF;obtain ⟨K,hK⟩:=nm (p.c.L);obtain ⟨S,hS⟩:=nm (p.s.L);obtain ⟨OQ,hOQ⟩:=nm (packO (qB p.q) W)
 have hrl:K.rl=p.n:=by rw [hK];rfl
 have f0:A.lt i 0=false:=by
  rw [hA];simp [std];omega
 have f1:A.le (A.len K.rl) i=false:=by
  rw [hA];rw [hrl];simp [std];omega
 have f2:A.le 0 i=true:=by
  rw [hA];simp [std];omega
 obtain ⟨u2,hu2⟩:=nm (p.up-2 ^ i.toNat)
 have f9:A.bandn .i64 p.up (A.shl .i64 1 i)=u2:=by rw [hA,hu2];have:=hp.n3;exact zp4 hp.up (by omega) (by rw [←zck hi];exact hu)
 have th:TriP Tryz.prog 95 [.one (.ptr 0 0 0),.one (.val (.int .i64 i))] [.own 151 [.val (iv p.c.regions),.gsl 1 K.zl,.gsl 2 K.cl,.gsl 3 K.tl,.gsl 4 K.vl,.gsl 5 K.rl,.gsl 6 K.ol,.val (iv p.c.blast),.val (iv p.c.lease),.val (iv p.c.bake),.ptr 7 0 0,.val (iv p.up),.val (iv p.s.tick),.val (iv p.s.count),.gsl 8 S.tl,.gsl 9 S.cl,.val (iv p.s.proven),.val (iv p.s.evac),.val (iv p.s.low),.val (iv p.s.high)],.grow 75 1 K.zl K.zs,.grow 137 2 K.cl K.cs,.grow 143 7 K.tl K.ts,.grow 141 2 K.vl K.vs,.grow 3 1 K.rl K.rs,.grow 3 1 K.ol K.os,.obj OQ,.grow 134 12 S.tl S.ts,.grow 167 4 S.cl S.cs] (vB true):=by
  have:=zbi p W hp i
  unfold plB PQ at this;rw [←hK,←hS,←hOQ,hu] at this;exact this
 have tC:TriX Tryz.prog 96 [.one (.ptr 0 0 0),.agg [.val (iv 7),.val (iv i),.val (iv 0),.val (iv 0),.val (iv 0),.val (iv 0),.val (iv 0),.val (iv 0),.val (iv 0),.val (iv 0),.val (iv 0),.val (iv 0)]] [.obj OQ] (vI 0) (fun W'=>[PQ (p.q.crash i) W']):=by
  rw [hOQ];exact zj3 p.q i (by rw [hp.reps];exact hi) (by rw [hp.reps];have:=hp.n3;omega) 0 0 0 0 0 0 0 0 0 0 hC hcm W
 show TriX _ _ _ [.own 151 [.val (iv p.c.regions),.gsl 1 p.c.L.zl,.gsl 2 p.c.L.cl,.gsl 3 p.c.L.tl,.gsl 4 p.c.L.vl,.gsl 5 p.c.L.rl,.gsl 6 p.c.L.ol,.val (iv p.c.blast),.val (iv p.c.lease),.val (iv p.c.bake),.ptr 7 0 0,.val (iv p.up),.val (iv p.s.tick),.val (iv p.s.count),.gsl 8 p.s.L.tl,.gsl 9 p.s.L.cl,.val (iv p.s.proven),.val (iv p.s.evac),.val (iv p.s.low),.val (iv p.s.high)],.grow 75 1 p.c.L.zl p.c.L.zs,.grow 137 2 p.c.L.cl p.c.L.cs,.grow 143 7 p.c.L.tl p.c.L.ts,.grow 141 2 p.c.L.vl p.c.L.vs,.grow 3 1 p.c.L.rl p.c.L.rs,.grow 3 1 p.c.L.ol p.c.L.os,.obj (packO (qB p.q) W),.grow 134 12 p.s.L.tl p.s.L.ts,.grow 167 4 p.s.L.cl p.s.L.cs] _ _
 rw [←hK,←hS,←hOQ];replace hA:=kH hA;replace hK:=kH hK;replace hS:=kH hS;replace hOQ:=kH hOQ;replace hrl:=kH hrl;replace hu:=kH hu;replace hu2:=kH hu2
 refine zad (D:=ords43) (fnO zhi Tryz.func43) 37 (fun w0 own ps R hpl hR kE=>?_)
 refine kN ?_
 conv=>arg 3;cbv
 repeat' first
  | ((with_reducible refine kC ?_);(first|refine nP [.same 0,.same 1,.same 2,.same 3,.same 4,.same 5,.same 6,.same 7,.same 8,.same 9] th ?_|(refine kX [.same 7] tC (fun W3=>?_);unfold PQ;obtain ⟨OP,hOP⟩:=nm (packO (qB (p.q.crash i)) W3);rw [←hOP];replace hOP:=kH hOP;refine kN ?_));conv=>arg 3;cbv)
  | ((with_reducible refine kG ?_);rw [hOP.out,hK.out,hS.out,hu2.out];refine kO1 hR 10 ⟨rfl,W3,rfl⟩)
  | (simp only [*];conv=>arg 3;cbv)
  | (split<;>(rename_i hsp;try simp only [FG] at hsp)<;>conv=>arg 3;cbv)
structure LoS (p:PlaneD) (J:Int→QuoD→Prop) (reg:Int) (R:PlaneD × Int) where
 i:Nat
 up:Int
 q:QuoD
 W:Nat→Prop
 k:Int
 hi:i≤p.n
 j:J up q
 kb:0≤k∧k≤i
 fin:loseGo p reg (p.n-i) i up q k=R
theorem qbu {p:PlaneD} {reg:Int} {i:Nat} {up:Int} {q:QuoD} {k:Int} {R:PlaneD × Int} (h:loseGo p reg (p.n-i) i up q k=R) (hi:p.n≤i):R=({ p with up:=up,q:=q },k):=by
 rw [show p.n-i=0 by omega,loseGo] at h
 exact h.symm
theorem qef {p:PlaneD} {reg:Int} {i:Nat} {up:Int} {q:QuoD} {k:Int} {R:PlaneD × Int} (h:loseGo p reg (p.n-i) i up q k=R) (hi:i<p.n) (hz:zoneReg p.c i=reg) (hu:({ p with up:=up,q:=q }:PlaneD).isUp (i:Int)=true):loseGo p reg (p.n-(i+1)) (i+1) (up-2 ^ i) (q.crash (i:Int)) (k+1)=R:=by
 rw [show p.n-i=(p.n-(i+1))+1 by omega,loseGo,if_pos ⟨hz,hu⟩] at h
 exact h
theorem qeg {p:PlaneD} {reg:Int} {i:Nat} {up:Int} {q:QuoD} {k:Int} {R:PlaneD × Int} (h:loseGo p reg (p.n-i) i up q k=R) (hi:i<p.n) (hz:zoneReg p.c i≠reg∨({ p with up:=up,q:=q }:PlaneD).isUp (i:Int)=false):loseGo p reg (p.n-(i+1)) (i+1) up q k=R:=by
 rw [show p.n-i=(p.n-(i+1))+1 by omega,loseGo,if_neg (fun h2=>hz.elim (fun h3=>h3 h2.1) fun h3=>by rw [h3] at h2;cases h2.2)] at h
 exact h
theorem zpq:Goes Tryz.prog 39:=zbb Tryz.func39 (by kernel_rfl) (by kernel_rfl)
theorem zr2 (p:PlaneD) (hp:PlOk p) (J:Int→QuoD→Prop) (hJ0:J p.up p.q) (hJ1:∀ up q,J up q→PlOk { p with up:=up,q:=q }) (hJ2:∀ up q (i:Nat),J up q→i<p.n→({ p with up:=up,q:=q }:PlaneD).isUp (i:Int)=true→KOk (q.rep (i:Int))∧(∀ j:Nat,j<q.reps.length→∀ r',r'=(if (j:Int)=(i:Int) then (q.rep (i:Int)).crash else q.rep (j:Int))→0≤r'.commit∧r'.commit≤r'.j.log.length∧r'.j.log.length≤4096)∧J (up-2 ^ i) (q.crash (i:Int))) (hz:∀ i:Nat,i<p.n→0≤p.c.reps.getD i 0∧p.c.reps.getD i 0<p.c.zones.length) (reg:Int) (R0:PlaneD × Int) (hR0:p.lose reg=R0) (W:Nat→Prop):TriX Tryz.prog 39 [.one (.ptr 0 0 0),.one (.val (.int .i64 reg))] (plB p W) (vI R0.2) (fun W'=>plB R0.1 W'):=by
 obtain ⟨A,hA,FG⟩:=aF;obtain ⟨K,hK⟩:=nm (p.c.L);obtain ⟨S,hS⟩:=nm (p.s.L)
 have FC:=cfgF hA hK
 unfold CfgF at FC
 have hrl:K.rl=p.n:=by rw [hK];rfl
 have hn3:=hp.n3
 have l1:∀ i:Nat,A.lt (Int.ofNat i) (A.len K.rl)=true→A.inb (Int.ofNat i) K.rl=true:=by rw [hA];intro i;simp [std]
 have l2:∀ i:Nat,A.lt (Int.ofNat i) (A.len K.rl)=true→A.add .i64 (Int.ofNat i) 1=Int.ofNat (i+1):=by rw [hA];intro i h;have hb:=(show K.rl≤1000000 by omega);exact za0 (by simpa [std] using h) hb
 have l3:∀ i:Nat,A.lt (Int.ofNat i) (A.len K.rl)=true→i<K.rl:=by rw [hA];intro i;simp [std]
 have l4:∀ i:Nat,A.lt (Int.ofNat i) (A.len K.rl)=false→K.rl≤i:=by rw [hA];intro i;simp [std]
 have hr:∀ i:Nat,A.lt (Int.ofNat i) (A.len K.rl)=true→i<p.n:=by intro i hi;have:=l3 i hi;omega
 have z1:∀ i:Nat,A.lt (Int.ofNat i) (A.len K.rl)=true→A.inb (K.rep (Int.ofNat i)) K.zl=true:=by
  intro i hi;have h9:=hz i (hr i hi);rw [hA,hK];show std.inb (p.c.reps.getD i 0) p.c.zones.length=true;simp only [std];simp;exact h9
 have z2:∀ i:Nat,K.zone (K.rep (Int.ofNat i))=zoneReg p.c i:=by intro i;rw [hK];rfl
 have f4:A.eq 4 0=false:=by rw [hA];rfl
 have f0:A.eq 0 0=true:=by rw [hA];rfl
 replace hA:=kH hA
 refine zad (D:=ords39) (fnO zzy Tryz.func39) 38 (fun w0 own ps R hpl hR kE=>?_)
 change Eng.Good _ _ (Eng.St.mk _ _ [.own 151 [.val (iv p.c.regions),.gsl 1 p.c.L.zl,.gsl 2 p.c.L.cl,.gsl 3 p.c.L.tl,.gsl 4 p.c.L.vl,.gsl 5 p.c.L.rl,.gsl 6 p.c.L.ol,.val (iv p.c.blast),.val (iv p.c.lease),.val (iv p.c.bake),.ptr 7 0 0,.val (iv p.up),.val (iv p.s.tick),.val (iv p.s.count),.gsl 8 p.s.L.tl,.gsl 9 p.s.L.cl,.val (iv p.s.proven),.val (iv p.s.evac),.val (iv p.s.low),.val (iv p.s.high)],.grow 75 1 p.c.L.zl p.c.L.zs,.grow 137 2 p.c.L.cl p.c.L.cs,.grow 143 7 p.c.L.tl p.c.L.ts,.grow 141 2 p.c.L.vl p.c.L.vs,.grow 3 1 p.c.L.rl p.c.L.rs,.grow 3 1 p.c.L.ol p.c.L.os,.obj (packO (qB p.q) W),.grow 134 12 p.s.L.tl p.s.L.ts,.grow 167 4 p.s.L.cl p.s.L.cs]);rw [←hK,←hS];obtain ⟨OQ0,hOQ0⟩:=nm (packO (qB p.q) W);rw [←hOQ0];replace hK:=kH hK;replace hS:=kH hS;replace hrl:=kH hrl;replace z2:=kH z2;refine kN ?_
 conv=>arg 3;cbv
 repeat' first
  | (simp only [FG];conv=>arg 3;cbv)
 refine zar 0 (α:=LoS p J reg R0) [6,7,15,16,17,18,19,20,21,22,23,24,25,26,27,28,29,30,31,32,33,34,35,36,37,38] (fun y=>[(14,.one (.val (.int .i64 (Int.ofNat y.i)))),(5,.one (.val (.int .i64 y.k)))]) (fun y=>[.own 151 [.val (iv p.c.regions),.gsl 1 K.zl,.gsl 2 K.cl,.gsl 3 K.tl,.gsl 4 K.vl,.gsl 5 K.rl,.gsl 6 K.ol,.val (iv p.c.blast),.val (iv p.c.lease),.val (iv p.c.bake),.ptr 7 0 0,.val (iv y.up),.val (iv p.s.tick),.val (iv p.s.count),.gsl 8 S.tl,.gsl 9 S.cl,.val (iv p.s.proven),.val (iv p.s.evac),.val (iv p.s.low),.val (iv p.s.high)],.grow 75 1 K.zl K.zs,.grow 137 2 K.cl K.cs,.grow 143 7 K.tl K.ts,.grow 141 2 K.vl K.vs,.grow 3 1 K.rl K.rs,.grow 3 1 K.ol K.os,.obj (packO (qB y.q) y.W),.grow 134 12 S.tl S.ts,.grow 167 4 S.cl S.cs]) (fun y=>K.rl-y.i) ⟨0,p.up,p.q,W,0,Nat.zero_le _,hJ0,⟨Int.le_refl 0,Int.le_refl 0⟩,hR0⟩ (by cbv;simp) (by rw [hOQ0]) (fun y=>rfl) (fun y z hy=>zbp hy trivial trivial) rfl (fun y L' hL1 hL2=>?_)
 obtain ⟨i,up,q,W0,k,hi,hj,hkb,hE⟩:=y;dsimp only
 have hpq:=hJ1 up q hj
 obtain ⟨OQ,hOQ⟩:=nm (packO (qB q) W0);rw [←hOQ];obtain ⟨u2,hu2⟩:=nm (up-2 ^ i);obtain ⟨k2,hk2⟩:=nm (k+1)
 have fk:A.add .i64 k 1=k2:=by rw [hA.out,hk2];exact (wrap64 (by omega) (by omega)).trans (by omega)
 cases hu:({ p with up:=up,q:=q }:PlaneD).isUp (i:Int) with
 | false =>
   have tN:A.lt (Int.ofNat i) (A.len K.rl)=true→TriP Tryz.prog 43 [.one (.ptr 0 0 0),.one (.val (.int .i64 (Int.ofNat i)))] [.own 151 [.val (iv p.c.regions),.gsl 1 K.zl,.gsl 2 K.cl,.gsl 3 K.tl,.gsl 4 K.vl,.gsl 5 K.rl,.gsl 6 K.ol,.val (iv p.c.blast),.val (iv p.c.lease),.val (iv p.c.bake),.ptr 7 0 0,.val (iv up),.val (iv p.s.tick),.val (iv p.s.count),.gsl 8 S.tl,.gsl 9 S.cl,.val (iv p.s.proven),.val (iv p.s.evac),.val (iv p.s.low),.val (iv p.s.high)],.grow 75 1 K.zl K.zs,.grow 137 2 K.cl K.cs,.grow 143 7 K.tl K.ts,.grow 141 2 K.vl K.vs,.grow 3 1 K.rl K.rs,.grow 3 1 K.ol K.os,.obj OQ,.grow 134 12 S.tl S.ts,.grow 167 4 S.cl S.cs] (vI 4):=by
    intro hlt;have h9:=hr i hlt;rw [hOQ,hK.out,hS.out];exact zox { p with up:=up,q:=q } hpq (i:Int) (by show 0≤(i:Int)∧(i:Int)<(p.n:Int);omega) hu W0
   replace hOQ:=kH hOQ;replace hu2:=kH hu2;replace hk2:=kH hk2;replace hu:=kH hu;replace hE:=kH hE;refine kN ?_
   conv=>arg 3;cbv
   repeat' first
    | ((with_reducible refine kG ?_);have hin:p.n≤i:=(by have:=l4 i (by assumption);rw [←hrl.out];exact this);have hRz:=qbu hE.out hin;subst hRz;rw [hOQ.out,hK.out,hS.out];refine kO1 hR 10 ⟨rfl,W0,rfl⟩)
    | ((with_reducible refine kC ?_);refine nP [.same 0,.same 1,.same 2,.same 3,.same 4,.same 5,.same 6,.same 7,.same 8,.same 9] (tN (by assumption)) ?_;conv=>arg 3;cbv)
    | (((with_reducible show Eng.Good _ _ (Eng.St.mk (Eng.It.again _::_) _ _));have hin:=hr i (by assumption);have hstep:=l2 i (by assumption);rw [hOQ.out];refine zat ⟨rfl,rfl,rfl⟩ hL2 ⟨i+1,up,q,W0,k,hin,hj,(by omega),qeg hE.out hin (.inr hu.out)⟩ (show K.rl-(i+1)<K.rl-i by have:=hrl.out;omega) (by dsimp only;simp only [hstep];cbv;simp) rfl (zai rfl)))
    | (simp only [FG,FC, *];conv=>arg 3;cbv)
    | (split<;>(rename_i hsp;try simp only [FG] at hsp)<;>conv=>arg 3;cbv)
 | true =>
   have tY:A.lt (Int.ofNat i) (A.len K.rl)=true→TriX Tryz.prog 43 [.one (.ptr 0 0 0),.one (.val (.int .i64 (Int.ofNat i)))] [.own 151 [.val (iv p.c.regions),.gsl 1 K.zl,.gsl 2 K.cl,.gsl 3 K.tl,.gsl 4 K.vl,.gsl 5 K.rl,.gsl 6 K.ol,.val (iv p.c.blast),.val (iv p.c.lease),.val (iv p.c.bake),.ptr 7 0 0,.val (iv up),.val (iv p.s.tick),.val (iv p.s.count),.gsl 8 S.tl,.gsl 9 S.cl,.val (iv p.s.proven),.val (iv p.s.evac),.val (iv p.s.low),.val (iv p.s.high)],.grow 75 1 K.zl K.zs,.grow 137 2 K.cl K.cs,.grow 143 7 K.tl K.ts,.grow 141 2 K.vl K.vs,.grow 3 1 K.rl K.rs,.grow 3 1 K.ol K.os,.obj OQ,.grow 134 12 S.tl S.ts,.grow 167 4 S.cl S.cs] (vI 0) (fun W'=>[.own 151 [.val (iv p.c.regions),.gsl 1 K.zl,.gsl 2 K.cl,.gsl 3 K.tl,.gsl 4 K.vl,.gsl 5 K.rl,.gsl 6 K.ol,.val (iv p.c.blast),.val (iv p.c.lease),.val (iv p.c.bake),.ptr 7 0 0,.val (iv u2),.val (iv p.s.tick),.val (iv p.s.count),.gsl 8 S.tl,.gsl 9 S.cl,.val (iv p.s.proven),.val (iv p.s.evac),.val (iv p.s.low),.val (iv p.s.high)],.grow 75 1 K.zl K.zs,.grow 137 2 K.cl K.cs,.grow 143 7 K.tl K.ts,.grow 141 2 K.vl K.vs,.grow 3 1 K.rl K.rs,.grow 3 1 K.ol K.os,.obj (packO (qB (q.crash (i:Int))) W'),.grow 134 12 S.tl S.ts,.grow 167 4 S.cl S.cs]):=by
    intro hlt;have h9:=hr i hlt;have h8:=hJ2 up q i hj h9 hu;rw [hOQ,hK.out,hS.out,hu2];exact zow { p with up:=up,q:=q } hpq (i:Int) (by show 0≤(i:Int)∧(i:Int)<(p.n:Int);omega) hu h8.1 h8.2.1 W0
   replace hOQ:=kH hOQ;replace hu2:=kH hu2;replace hk2:=kH hk2;replace hu:=kH hu;replace hE:=kH hE;refine kN ?_
   conv=>arg 3;cbv
   repeat' first
    | ((with_reducible refine kG ?_);have hin:p.n≤i:=(by have:=l4 i (by assumption);rw [←hrl.out];exact this);have hRz:=qbu hE.out hin;subst hRz;rw [hOQ.out,hK.out,hS.out];refine kO1 hR 10 ⟨rfl,W0,rfl⟩)
    | ((with_reducible refine kC ?_);refine kX [.same 0,.same 1,.same 2,.same 3,.same 4,.same 5,.same 6,.same 7,.same 8,.same 9] (tY (by assumption)) (fun W3=>?_);obtain ⟨O2,hO2⟩:=nm (packO (qB (q.crash (i:Int))) W3);rw [←hO2];replace hO2:=kH hO2;refine kN ?_;conv=>arg 3;cbv)
    | (((with_reducible show Eng.Good _ _ (Eng.St.mk (Eng.It.again _::_) _ _));have h80:A.eq (K.zone (K.rep (Int.ofNat i))) reg=false:=(by assumption);have hin:=hr i (by assumption);have hstep:=l2 i (by assumption);rw [hOQ.out];refine zat ⟨rfl,rfl,rfl⟩ hL2 ⟨i+1,up,q,W0,k,hin,hj,(by omega),qeg hE.out hin (.inl (fun h9=>by { rw [hA.out,z2.out i,h9] at h80;simp [std] at h80 }))⟩ (show K.rl-(i+1)<K.rl-i by have:=hrl.out;omega) (by dsimp only;simp only [hstep];cbv;simp) rfl (zai rfl)))
    | (((with_reducible show Eng.Good _ _ (Eng.St.mk (Eng.It.again _::_) _ _));have h80:A.eq (K.zone (K.rep (Int.ofNat i))) reg=true:=(by assumption);have hin:=hr i (by assumption);have hstep:=l2 i (by assumption);have hzz:zoneReg p.c i=reg:=(by { have h8:=h80;rw [hA.out,z2.out i] at h8;exact of_decide_eq_true h8 });rw [hO2.out,hu2.out];refine zat ⟨rfl,rfl,rfl⟩ hL2 ⟨i+1,up-2 ^ i,q.crash (i:Int),W3,k+1,hin,(hJ2 up q i hj hin hu.out).2.2,(by omega),qef hE.out hin hzz hu.out⟩ (show K.rl-(i+1)<K.rl-i by have:=hrl.out;omega) (by dsimp only;simp only [hstep,fk,hk2.out];cbv;simp) rfl (zai rfl)))
    | (simp only [FG,FC, *];conv=>arg 3;cbv)
    | (split<;>(rename_i hsp;try simp only [FG] at hsp)<;>conv=>arg 3;cbv)
theorem zos (p:PlaneD) (hp:PlOk p) (J:Int→QuoD→Prop) (hJ0:J p.up p.q) (hJ1:∀ up q,J up q→PlOk { p with up:=up,q:=q }) (hJ2:∀ up q (i:Nat),J up q→i<p.n→({ p with up:=up,q:=q }:PlaneD).isUp (i:Int)=true→KOk (q.rep (i:Int))∧(∀ j:Nat,j<q.reps.length→∀ r',r'=(if (j:Int)=(i:Int) then (q.rep (i:Int)).crash else q.rep (j:Int))→0≤r'.commit∧r'.commit≤r'.j.log.length∧r'.j.log.length≤4096)∧J (up-2 ^ i) (q.crash (i:Int))) (hz:∀ i:Nat,i<p.n→0≤p.c.reps.getD i 0∧p.c.reps.getD i 0<p.c.zones.length) (reg:Int) (W:Nat→Prop):TriX Tryz.prog 39 [.one (.ptr 0 0 0),.one (.val (.int .i64 reg))] [PP p W] (vI (p.lose reg).2) (fun W'=>[PP (p.lose reg).1 W']) :=
 zy6 zpq (fun _=>by simp [plB]) (fun _=>by simp [plB]) (fun _ b hb=>by simp only [plB,List.mem_cons,List.not_mem_nil,or_false] at hb;rcases hb with rfl|rfl|rfl|rfl|rfl|rfl|rfl|rfl|rfl|rfl<;>rfl) rfl rfl fun Wq=>zr2 p hp J hJ0 hJ1 hJ2 hz reg _ rfl Wq
end Go.Proofs.YtpigpajgjdcagaaGreat
