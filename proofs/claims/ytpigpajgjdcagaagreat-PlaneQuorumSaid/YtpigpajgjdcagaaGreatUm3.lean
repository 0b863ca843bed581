/- Parts. -/
import Derived.Test.YtpigpajgjdcagaaGreatUp1
import Derived.Test.YtpigpajgjdcagaaGreatUf
set_option linter.unusedSimpArgs false
set_option linter.unusedVariables false
set_option maxRecDepth 100000
set_option maxHeartbeats 60000000
namespace Go.Proofs.YtpigpajgjdcagaaGreat
open Go.RowKit Eng
def numsP (K:CfgL) (r:Int):Bool:=inB r 1 4 && inB K.zl 1 8 && inB K.cl 1 16 && inB K.vl 1 30 && inB K.rl 1 5 && inB K.ol 1 9 && decide ((K.tl:Int)≤32)
def placesP (K:CfgL) (r:Int):Bool:=((List.range K.zl).all fun (i:Nat)=>inB (K.zone (Int.ofNat i)) 0 (r-1)) && ((List.range K.cl).all fun (i:Nat)=>inB (K.czone (Int.ofNat i)) 0 ((K.zl:Int)-1)) && ((List.range K.rl).all fun (i:Nat)=>inB (K.rep (Int.ofNat i)) 0 ((K.zl:Int)-1)) && ((List.range K.ol).all fun (i:Nat)=>inB (K.ob (Int.ofNat i)) 0 ((K.zl:Int)-1))
def verP (K:CfgL) (i:Nat):Bool:=decide (0≤K.vlow (Int.ofNat i)) && decide (K.vlow (Int.ofNat i)≤K.vhigh (Int.ofNat i)) && decide (K.vhigh (Int.ofNat i)≤30) && (!(i == 0) || K.vlow (Int.ofNat i) == 0)
def valsP (K:CfgL) (c:CfgD):Bool:=((List.range K.cl).all fun (i:Nat)=>inB (K.ccap (Int.ofNat i)) 1 4194304) && ((List.range K.vl).all fun (i:Nat)=>verP K i) && (inB c.blast 1 16 && inB c.lease 1 1000 && inB c.bake 0 10000)
def permV (ld sh pr la al gr r:Int):Bool:=inB ld 1 65536 && inB sh 0 ld && inB pr 0 9 && inB la (-1) 1000 && inB al 1 (std.sub .i64 (std.shl .i64 1 (std.conv .u64 r)) 1) && inB gr 0 32
def permP (K:CfgL) (r:Int) (i:Int):Bool:=permV (K.load i) (K.shadow i) (K.prio i) (K.lag i) (K.allowed i) (K.group i) r
def tvalP (K:CfgL) (c:CfgD):Int:=if numsP K c.regions=false then 2 else if (K.rl:Int).tmod 2=0∨placesP K c.regions=false∨valsP K c=false then 1 else 0
def validK (K:CfgL) (c:CfgD):Int:=if tvalP K c≠0 then tvalP K c else if ((List.range K.tl).all fun (i:Nat)=>permP K c.regions (Int.ofNat i))=true then 0 else 1
theorem zyh {c:CfgD} {K:CfgL} (hK:K=c.L) :TriP Tryz.prog 231 [cfgS K c] (cfgM K) (vB (numsP K c.regions)):=by
 obtain ⟨A,hA,FG⟩:=aF;unfold GenF at FG;simp only [numsP];obtain ⟨W,hW⟩:=nm (inB);obtain ⟨zn,hzn⟩:=nm ((K.zl:Int));obtain ⟨cn,hcn⟩:=nm ((K.cl:Int));obtain ⟨vn,hvn⟩:=nm ((K.vl:Int));obtain ⟨rn,hrn⟩:=nm ((K.rl:Int));obtain ⟨on,hon⟩:=nm ((K.ol:Int));obtain ⟨bt,hbt⟩:=nm (decide ((K.tl:Int)≤32));simp only [←hW,←hzn,←hcn,←hvn,←hrn,←hon,←hbt]
 have FC:=cfgF hA hK
 unfold CfgF at FC
 have f0:A.len K.zl=zn:=by
  rw [hA];rw [hzn];rfl
 have f1:A.len K.cl=cn:=by
  rw [hA];rw [hcn];rfl
 have f2:A.len K.vl=vn:=by
  rw [hA];rw [hvn];rfl
 have f3:A.len K.rl=rn:=by
  rw [hA];rw [hrn];rfl
 have f4:A.len K.ol=on:=by
  rw [hA];rw [hon];rfl
 have f5:A.le (A.len K.tl) 32=bt:=by
  rw [hA];rw [hbt];rfl
 have tw:=fun n lo hi=>ze5 n lo hi
 try simp only [←hW,←hzn,←hcn,←hvn,←hrn,←hon,←hbt] at tw
 change Hid _ at hA hK hW hzn hcn hvn hrn hon hbt
 refine zad (D:=ords231) (fnO zu2 Tryz.func231) 41 (fun w0 own ps R hpl hR kE=>?_)
 refine kN ?_
 repeat' (conv=>arg 3;try cbv);first
  | ((with_reducible refine kC ?_);refine nP [] (tw _ _ _) ?_)
  | ((with_reducible refine kG ?_);refine kO1 hR 6 ⟨?_,by rfl⟩)
  | simp only [FG,FC, *]
  | (split<;>(rename_i hsp;try simp only [FG] at hsp))
 all_goals ((try simp only [f0,f1,f2,f3,f4,f5]);try clear hR hpl FG FC f0 f1 f2 f3 f4 f5 tw;replace hA:=hA.out;subst hA;first|rfl|(simp_all [std];done)|(cases K;cases c;try dsimp only at *; (try simp_all [std])<;>(first|rfl|(intros;omega)|(split<;>first|omega|rfl|(simp_all;done))|grind)))
theorem zn2 {c:CfgD} {K:CfgL} (hK:K=c.L) (hlzl:K.zl≤1000000) (hlcl:K.cl≤1000000) (hltl:K.tl≤1000000) (hlvl:K.vl≤1000000) (hlrl:K.rl≤1000000) (hlol:K.ol≤1000000) (hreg:1≤c.regions∧c.regions≤4):TriP Tryz.prog 232 [cfgS K c] (cfgM K) (vB (placesP K c.regions)):=by
 obtain ⟨A,hA,FG⟩:=aF;unfold GenF at FG;simp only [placesP];obtain ⟨W,hW⟩:=nm (inB);obtain ⟨rm,hrm⟩:=nm (c.regions-1);obtain ⟨zm,hzm⟩:=nm ((K.zl:Int)-1)
 obtain ⟨Ya,hYa⟩:=nm ((List.range K.zl).all fun (i:Nat)=>W (K.zone (Int.ofNat i)) 0 rm)
 obtain ⟨Yb,hYb⟩:=nm ((List.range K.cl).all fun (i:Nat)=>W (K.czone (Int.ofNat i)) 0 zm)
 obtain ⟨Yc,hYc⟩:=nm ((List.range K.rl).all fun (i:Nat)=>W (K.rep (Int.ofNat i)) 0 zm)
 obtain ⟨Yd,hYd⟩:=nm ((List.range K.ol).all fun (i:Nat)=>W (K.ob (Int.ofNat i)) 0 zm)
 simp only [←hW,←hrm,←hzm,←hYa,←hYb,←hYc,←hYd]
 have l1a:∀ i:Nat,A.lt (Int.ofNat i) (A.len K.zl)=true→A.inb (Int.ofNat i) K.zl=true:=by rw [hA];intro i;simp [std]
 have l2a:∀ i:Nat,A.lt (Int.ofNat i) (A.len K.zl)=true→A.add .i64 (Int.ofNat i) 1=Int.ofNat (i+1):=by rw [hA];intro i h;have hb:=(show K.zl≤1000000 by exact hlzl);exact za3 (by simpa [std] using h) hb
 have l3a:∀ i:Nat,A.lt (Int.ofNat i) (A.len K.zl)=true→i<K.zl:=by rw [hA];intro i;simp [std]
 have l4a:∀ i:Nat,A.lt (Int.ofNat i) (A.len K.zl)=false→K.zl≤i:=by rw [hA];intro i;simp [std]
 have da:(∀ k:Nat,k<K.zl→W (K.zone (Int.ofNat k)) 0 rm=true)→Ya=true:=by
  try rw [hA]
  intro h;rw [hYa];refine List.all_eq_true.2 fun i hi=>?_;have:=h i (List.mem_range.1 hi);simp_all [std]
 have ma:∀ i:Nat,i<K.zl→W (K.zone (Int.ofNat i)) 0 rm=false→Ya=false:=by
  try rw [hA]
  intro i hi;rw [hYa];intro h;rw [Bool.eq_false_iff];intro h2;have:=List.all_eq_true.1 h2 i (List.mem_range.2 hi);simp_all [std]
 have l1b:∀ i:Nat,A.lt (Int.ofNat i) (A.len K.cl)=true→A.inb (Int.ofNat i) K.cl=true:=by rw [hA];intro i;simp [std]
 have l2b:∀ i:Nat,A.lt (Int.ofNat i) (A.len K.cl)=true→A.add .i64 (Int.ofNat i) 1=Int.ofNat (i+1):=by rw [hA];intro i h;have hb:=(show K.cl≤1000000 by exact hlcl);exact za3 (by simpa [std] using h) hb
 have l3b:∀ i:Nat,A.lt (Int.ofNat i) (A.len K.cl)=true→i<K.cl:=by rw [hA];intro i;simp [std]
 have l4b:∀ i:Nat,A.lt (Int.ofNat i) (A.len K.cl)=false→K.cl≤i:=by rw [hA];intro i;simp [std]
 have db:(∀ k:Nat,k<K.cl→W (K.czone (Int.ofNat k)) 0 zm=true)→Yb=true:=by
  try rw [hA]
  intro h;rw [hYb];refine List.all_eq_true.2 fun i hi=>?_;have:=h i (List.mem_range.1 hi);simp_all [std]
 have mb:∀ i:Nat,i<K.cl→W (K.czone (Int.ofNat i)) 0 zm=false→Yb=false:=by
  try rw [hA]
  intro i hi;rw [hYb];intro h;rw [Bool.eq_false_iff];intro h2;have:=List.all_eq_true.1 h2 i (List.mem_range.2 hi);simp_all [std]
 have l1c:∀ i:Nat,A.lt (Int.ofNat i) (A.len K.rl)=true→A.inb (Int.ofNat i) K.rl=true:=by rw [hA];intro i;simp [std]
 have l2c:∀ i:Nat,A.lt (Int.ofNat i) (A.len K.rl)=true→A.add .i64 (Int.ofNat i) 1=Int.ofNat (i+1):=by rw [hA];intro i h;have hb:=(show K.rl≤1000000 by exact hlrl);exact za3 (by simpa [std] using h) hb
 have l3c:∀ i:Nat,A.lt (Int.ofNat i) (A.len K.rl)=true→i<K.rl:=by rw [hA];intro i;simp [std]
 have l4c:∀ i:Nat,A.lt (Int.ofNat i) (A.len K.rl)=false→K.rl≤i:=by rw [hA];intro i;simp [std]
 have dc:(∀ k:Nat,k<K.rl→W (K.rep (Int.ofNat k)) 0 zm=true)→Yc=true:=by
  try rw [hA]
  intro h;rw [hYc];refine List.all_eq_true.2 fun i hi=>?_;have:=h i (List.mem_range.1 hi);simp_all [std]
 have mc:∀ i:Nat,i<K.rl→W (K.rep (Int.ofNat i)) 0 zm=false→Yc=false:=by
  try rw [hA]
  intro i hi;rw [hYc];intro h;rw [Bool.eq_false_iff];intro h2;have:=List.all_eq_true.1 h2 i (List.mem_range.2 hi);simp_all [std]
 have l1d:∀ i:Nat,A.lt (Int.ofNat i) (A.len K.ol)=true→A.inb (Int.ofNat i) K.ol=true:=by rw [hA];intro i;simp [std]
 have l2d:∀ i:Nat,A.lt (Int.ofNat i) (A.len K.ol)=true→A.add .i64 (Int.ofNat i) 1=Int.ofNat (i+1):=by rw [hA];intro i h;have hb:=(show K.ol≤1000000 by exact hlol);exact za3 (by simpa [std] using h) hb
 have l3d:∀ i:Nat,A.lt (Int.ofNat i) (A.len K.ol)=true→i<K.ol:=by rw [hA];intro i;simp [std]
 have l4d:∀ i:Nat,A.lt (Int.ofNat i) (A.len K.ol)=false→K.ol≤i:=by rw [hA];intro i;simp [std]
 have dd:(∀ k:Nat,k<K.ol→W (K.ob (Int.ofNat k)) 0 zm=true)→Yd=true:=by
  try rw [hA]
  intro h;rw [hYd];refine List.all_eq_true.2 fun i hi=>?_;have:=h i (List.mem_range.1 hi);simp_all [std]
 have md:∀ i:Nat,i<K.ol→W (K.ob (Int.ofNat i)) 0 zm=false→Yd=false:=by
  try rw [hA]
  intro i hi;rw [hYd];intro h;rw [Bool.eq_false_iff];intro h2;have:=List.all_eq_true.1 h2 i (List.mem_range.2 hi);simp_all [std]
 have FC:=cfgF hA hK
 unfold CfgF at FC
 have f0:A.sub .i64 c.regions 1=rm:=by
  rw [hA]
  rw [hrm];exact wrap64 (by omega) (by omega)
 have f1:A.sub .i64 (A.len K.zl) 1=zm:=by
  rw [hA];rw [←hA,qca hA hlzl,hzm]
 have tw:=fun n lo hi=>ze5 n lo hi
 try simp only [←hW,←hrm,←hzm,←hYa,←hYb,←hYc,←hYd] at tw
 change Hid _ at hA hK hW hrm hzm hYa hYb hYc hYd
 refine zad (D:=ords232) (fnO zu1 Tryz.func232) 67 (fun w0 own ps R hpl hR kE=>?_)
 refine kN ?_
 repeat' (conv=>arg 3;try cbv);first
  | ((with_reducible refine kC ?_);refine nP [] (tw _ _ _) ?_)
  | (((with_reducible refine kL ?_);have hgd:=hprevc;clear hgd;refine zau 3 (α:={ i:Nat // i≤K.ol∧∀ k:Nat,k<i→W (K.ob (Int.ofNat k)) 0 zm=true }) [2,11,60,61,62,63,64,65,66,67] (fun x=>[(59,.one (.val (.int .i64 (Int.ofNat x.1))))]) (fun x=>K.ol-x.1) ⟨0,Nat.zero_le _,fun k hk=>absurd hk (Nat.not_lt_zero k)⟩ (by cbv;simp) (fun x y hy=>za0 hy trivial) rfl (fun x L' hokd hL1d hL2d=>?_);obtain ⟨id,hid,hprevd⟩:=x;dsimp only;refine kN ?_))
  | (((with_reducible refine kL ?_);have hgd:=hprevb;clear hgd;refine zau 2 (α:={ i:Nat // i≤K.rl∧∀ k:Nat,k<i→W (K.rep (Int.ofNat k)) 0 zm=true }) [2,9,48,49,50,51,52,53,54,55] (fun x=>[(47,.one (.val (.int .i64 (Int.ofNat x.1))))]) (fun x=>K.rl-x.1) ⟨0,Nat.zero_le _,fun k hk=>absurd hk (Nat.not_lt_zero k)⟩ (by cbv;simp) (fun x y hy=>za0 hy trivial) rfl (fun x L' hokc hL1c hL2c=>?_);obtain ⟨ic,hic,hprevc⟩:=x;dsimp only;refine kN ?_))
  | (((with_reducible refine kL ?_);have hgd:=hpreva;clear hgd;refine zau 1 (α:={ i:Nat // i≤K.cl∧∀ k:Nat,k<i→W (K.czone (Int.ofNat k)) 0 zm=true }) [2,7,35,36,37,38,39,40,41,42,43] (fun x=>[(34,.one (.val (.int .i64 (Int.ofNat x.1))))]) (fun x=>K.cl-x.1) ⟨0,Nat.zero_le _,fun k hk=>absurd hk (Nat.not_lt_zero k)⟩ (by cbv;simp) (fun x y hy=>za0 hy trivial) rfl (fun x L' hokb hL1b hL2b=>?_);obtain ⟨ib,hib,hprevb⟩:=x;dsimp only;refine kN ?_))
  | (((with_reducible refine kL ?_);refine zau 0 (α:={ i:Nat // i≤K.zl∧∀ k:Nat,k<i→W (K.zone (Int.ofNat k)) 0 rm=true }) [2,4,16,17,18,19,20,21,22,23,24,25,26] (fun x=>[(15,.one (.val (.int .i64 (Int.ofNat x.1))))]) (fun x=>K.zl-x.1) ⟨0,Nat.zero_le _,fun k hk=>absurd hk (Nat.not_lt_zero k)⟩ (by cbv;simp) (fun x y hy=>za0 hy trivial) rfl (fun x L' hoka hL1a hL2a=>?_);obtain ⟨ia,hia,hpreva⟩:=x;dsimp only;refine kN ?_))
  | (((with_reducible refine kA ?_);have hlt:=l3d id (by assumption);have hstep:=l2d id (by assumption);refine zao ⟨rfl,rfl,rfl⟩ hokd hL2d ⟨id+1,hlt,fun k hk=>?_⟩ (show K.ol-(id+1)<K.ol-id by omega) (by dsimp only;simp only [hstep, *];cbv;simp) rfl;rcases Nat.lt_succ_iff_lt_or_eq.1 hk with hk1|hk1;exact hprevd k hk1;subst hk1;first|exact (by assumption)))
  | (((with_reducible refine kA ?_);have hlt:=l3c ic (by assumption);have hstep:=l2c ic (by assumption);refine zao ⟨rfl,rfl,rfl⟩ hokc hL2c ⟨ic+1,hlt,fun k hk=>?_⟩ (show K.rl-(ic+1)<K.rl-ic by omega) (by dsimp only;simp only [hstep, *];cbv;simp) rfl;rcases Nat.lt_succ_iff_lt_or_eq.1 hk with hk1|hk1;exact hprevc k hk1;subst hk1;first|exact (by assumption)))
  | (((with_reducible refine kA ?_);have hlt:=l3b ib (by assumption);have hstep:=l2b ib (by assumption);refine zao ⟨rfl,rfl,rfl⟩ hokb hL2b ⟨ib+1,hlt,fun k hk=>?_⟩ (show K.cl-(ib+1)<K.cl-ib by omega) (by dsimp only;simp only [hstep, *];cbv;simp) rfl;rcases Nat.lt_succ_iff_lt_or_eq.1 hk with hk1|hk1;exact hprevb k hk1;subst hk1;first|exact (by assumption)))
  | (((with_reducible refine kA ?_);have hlt:=l3a ia (by assumption);have hstep:=l2a ia (by assumption);refine zao ⟨rfl,rfl,rfl⟩ hoka hL2a ⟨ia+1,hlt,fun k hk=>?_⟩ (show K.zl-(ia+1)<K.zl-ia by omega) (by dsimp only;simp only [hstep, *];cbv;simp) rfl;rcases Nat.lt_succ_iff_lt_or_eq.1 hk with hk1|hk1;exact hpreva k hk1;subst hk1;first|exact (by assumption)))
  | ((with_reducible refine kG ?_);refine kO1 hR 6 ⟨?_,by rfl⟩)
  | simp only [FG,FC, *]
  | (split<;>(rename_i hsp;try simp only [FG] at hsp))
 all_goals ((try (have ea:=da (fun k hk=>hpreva k (Nat.lt_of_lt_of_le hk (l4a ia (by assumption))))));(try (have ea:=ma ia (l3a ia (by assumption)) (by assumption)));(try (have eb:=db (fun k hk=>hprevb k (Nat.lt_of_lt_of_le hk (l4b ib (by assumption))))));(try (have eb:=mb ib (l3b ib (by assumption)) (by assumption)));(try (have ec:=dc (fun k hk=>hprevc k (Nat.lt_of_lt_of_le hk (l4c ic (by assumption))))));(try (have ec:=mc ic (l3c ic (by assumption)) (by assumption)));(try (have ed:=dd (fun k hk=>hprevd k (Nat.lt_of_lt_of_le hk (l4d id (by assumption))))));(try (have ed:=md id (l3d id (by assumption)) (by assumption)));(try clear hR hpl);(try clear da ma l1a l2a l3a l4a db mb l1b l2b l3b l4b dc mc l1c l2c l3c l4c dd md l1d l2d l3d l4d);(try clear FG FC);replace hA:=hA.out;(first|(simp_all;done)|(simp_all [std];done)|grind))
theorem zn1 {c:CfgD} {K:CfgL} (hK:K=c.L) (hlzl:K.zl≤1000000) (hlcl:K.cl≤1000000) (hltl:K.tl≤1000000) (hlvl:K.vl≤1000000) (hlrl:K.rl≤1000000) (hlol:K.ol≤1000000):TriP Tryz.prog 233 [cfgS K c] (cfgM K) (vB (valsP K c)):=by
 obtain ⟨A,hA,FG⟩:=aF;unfold GenF at FG;simp only [valsP];obtain ⟨W,hW⟩:=nm (inB);obtain ⟨VP,hVP⟩:=nm (verP K)
 obtain ⟨Ya,hYa⟩:=nm ((List.range K.cl).all fun (i:Nat)=>W (K.ccap (Int.ofNat i)) 1 4194304)
 obtain ⟨Yb,hYb⟩:=nm ((List.range K.vl).all fun (i:Nat)=>VP i)
 simp only [←hW,←hVP,←hYa,←hYb]
 have v1:∀ i:Nat,A.sel (A.sel (A.lt (K.vlow (Int.ofNat i)) 0) true (A.lt (K.vhigh (Int.ofNat i)) (K.vlow (Int.ofNat i)))) true (A.lt 30 (K.vhigh (Int.ofNat i)))=true→VP i=false:=by
  rw [hA,hVP];intro i h;unfold verP;simp [std] at h;rw [Bool.eq_false_iff];intro h2;simp at h2;omega
 have v2:∀ i:Nat,A.eq (Int.ofNat i) 0=true→A.eq (K.vlow (Int.ofNat i)) 0=false→VP i=false:=by
  rw [hA,hVP];intro i h h3;unfold verP;simp [std] at h h3;rw [Bool.eq_false_iff];intro h2;simp at h2;omega
 have v3:∀ i:Nat,(A.lt (K.vlow (Int.ofNat i)) 0=false∧A.lt (K.vhigh (Int.ofNat i)) (K.vlow (Int.ofNat i))=false)∧A.lt 30 (K.vhigh (Int.ofNat i))=false→A.eq (Int.ofNat i) 0=false→VP i=true:=by
  rw [hA,hVP];intro i h h3;unfold verP;simp [std] at h h3 ⊢;omega
 have v4:∀ i:Nat,(A.lt (K.vlow (Int.ofNat i)) 0=false∧A.lt (K.vhigh (Int.ofNat i)) (K.vlow (Int.ofNat i))=false)∧A.lt 30 (K.vhigh (Int.ofNat i))=false→A.eq (K.vlow (Int.ofNat i)) 0=true→VP i=true:=by
  rw [hA,hVP];intro i h h3;unfold verP;simp [std] at h h3 ⊢;omega
 have l1a:∀ i:Nat,A.lt (Int.ofNat i) (A.len K.cl)=true→A.inb (Int.ofNat i) K.cl=true:=by rw [hA];intro i;simp [std]
 have l2a:∀ i:Nat,A.lt (Int.ofNat i) (A.len K.cl)=true→A.add .i64 (Int.ofNat i) 1=Int.ofNat (i+1):=by rw [hA];intro i h;have hb:=(show K.cl≤1000000 by exact hlcl);exact za3 (by simpa [std] using h) hb
 have l3a:∀ i:Nat,A.lt (Int.ofNat i) (A.len K.cl)=true→i<K.cl:=by rw [hA];intro i;simp [std]
 have l4a:∀ i:Nat,A.lt (Int.ofNat i) (A.len K.cl)=false→K.cl≤i:=by rw [hA];intro i;simp [std]
 have da:(∀ k:Nat,k<K.cl→W (K.ccap (Int.ofNat k)) 1 4194304=true)→Ya=true:=by
  try rw [hA]
  intro h;rw [hYa];refine List.all_eq_true.2 fun i hi=>?_;have:=h i (List.mem_range.1 hi);simp_all [std]
 have ma:∀ i:Nat,i<K.cl→W (K.ccap (Int.ofNat i)) 1 4194304=false→Ya=false:=by
  try rw [hA]
  intro i hi;rw [hYa];intro h;rw [Bool.eq_false_iff];intro h2;have:=List.all_eq_true.1 h2 i (List.mem_range.2 hi);simp_all [std]
 have l1b:∀ i:Nat,A.lt (Int.ofNat i) (A.len K.vl)=true→A.inb (Int.ofNat i) K.vl=true:=by rw [hA];intro i;simp [std]
 have l2b:∀ i:Nat,A.lt (Int.ofNat i) (A.len K.vl)=true→A.add .i64 (Int.ofNat i) 1=Int.ofNat (i+1):=by rw [hA];intro i h;have hb:=(show K.vl≤1000000 by exact hlvl);exact za3 (by simpa [std] using h) hb
 have l3b:∀ i:Nat,A.lt (Int.ofNat i) (A.len K.vl)=true→i<K.vl:=by rw [hA];intro i;simp [std]
 have l4b:∀ i:Nat,A.lt (Int.ofNat i) (A.len K.vl)=false→K.vl≤i:=by rw [hA];intro i;simp [std]
 have db:(∀ k:Nat,k<K.vl→VP k=true)→Yb=true:=by
  try rw [hA]
  intro h;rw [hYb];refine List.all_eq_true.2 fun i hi=>?_;have:=h i (List.mem_range.1 hi);simp_all [std]
 have mb:∀ i:Nat,i<K.vl→VP i=false→Yb=false:=by
  try rw [hA]
  intro i hi;rw [hYb];intro h;rw [Bool.eq_false_iff];intro h2;have:=List.all_eq_true.1 h2 i (List.mem_range.2 hi);simp_all [std]
 have FC:=cfgF hA hK
 unfold CfgF at FC
 have tw:=fun n lo hi=>ze5 n lo hi
 try simp only [←hW,←hVP,←hYa,←hYb] at tw
 change Hid _ at hA hK hW hVP hYa hYb
 refine zad (D:=ords233) (fnO zu0 Tryz.func233) 64 (fun w0 own ps R hpl hR kE=>?_)
 refine kN ?_
 repeat' (conv=>arg 3;try cbv);first
  | ((with_reducible refine kC ?_);refine nP [] (tw _ _ _) ?_)
  | (((with_reducible refine kL ?_);have hgd:=hpreva;clear hgd;refine zau 1 (α:={ i:Nat // i≤K.vl∧∀ k:Nat,k<i→VP k=true }) [2,5,6,23,24,25,26,27,28,29,30,31,32,33,34,35,36,37,38,39,40,41,42,43,44,45,46,47,48,49,50,51] (fun x=>[(22,.one (.val (.int .i64 (Int.ofNat x.1))))]) (fun x=>K.vl-x.1) ⟨0,Nat.zero_le _,fun k hk=>absurd hk (Nat.not_lt_zero k)⟩ (by cbv;simp) (fun x y hy=>za0 hy trivial) rfl (fun x L' hokb hL1b hL2b=>?_);obtain ⟨ib,hib,hprevb⟩:=x;dsimp only;refine kN ?_))
  | (((with_reducible refine kL ?_);refine zau 0 (α:={ i:Nat // i≤K.cl∧∀ k:Nat,k<i→W (K.ccap (Int.ofNat k)) 1 4194304=true }) [2,4,11,12,13,14,15,16,17,18] (fun x=>[(10,.one (.val (.int .i64 (Int.ofNat x.1))))]) (fun x=>K.cl-x.1) ⟨0,Nat.zero_le _,fun k hk=>absurd hk (Nat.not_lt_zero k)⟩ (by cbv;simp) (fun x y hy=>za0 hy trivial) rfl (fun x L' hoka hL1a hL2a=>?_);obtain ⟨ia,hia,hpreva⟩:=x;dsimp only;refine kN ?_))
  | (((with_reducible refine kA ?_);have hlt:=l3b ib (by assumption);have hstep:=l2b ib (by assumption);refine zao ⟨rfl,rfl,rfl⟩ hokb hL2b ⟨ib+1,hlt,fun k hk=>?_⟩ (show K.vl-(ib+1)<K.vl-ib by omega) (by dsimp only;simp only [hstep, *];cbv;simp) rfl;rcases Nat.lt_succ_iff_lt_or_eq.1 hk with hk1|hk1;exact hprevb k hk1;subst hk1;first|exact v3 _ (by assumption) (by assumption)|exact v4 _ (by assumption) (by assumption)))
  | (((with_reducible refine kA ?_);have hlt:=l3a ia (by assumption);have hstep:=l2a ia (by assumption);refine zao ⟨rfl,rfl,rfl⟩ hoka hL2a ⟨ia+1,hlt,fun k hk=>?_⟩ (show K.cl-(ia+1)<K.cl-ia by omega) (by dsimp only;simp only [hstep, *];cbv;simp) rfl;rcases Nat.lt_succ_iff_lt_or_eq.1 hk with hk1|hk1;exact hpreva k hk1;subst hk1;first|exact (by assumption)))
  | ((with_reducible refine kG ?_);refine kO1 hR 6 ⟨?_,by rfl⟩)
  | simp only [FG,FC, *]
  | (split<;>(rename_i hsp;try simp only [FG] at hsp))
 all_goals ((try (have z1:=v1 ib (by assumption)));(try (have z2:=v2 ib (by assumption) (by assumption)));(try clear v1 v2 v3 v4);(try (have ea:=da (fun k hk=>hpreva k (Nat.lt_of_lt_of_le hk (l4a ia (by assumption))))));(try (have ea:=ma ia (l3a ia (by assumption)) (by assumption)));(try (have eb:=db (fun k hk=>hprevb k (Nat.lt_of_lt_of_le hk (l4b ib (by assumption))))));(try (have eb:=mb ib (l3b ib (by assumption)) (by assumption)));(try clear hR hpl);(try clear da ma l1a l2a l3a l4a db mb l1b l2b l3b l4b);(try clear FG FC);replace hA:=hA.out;(first|(simp_all;done)|(simp_all [std];done)|grind))
theorem zzi {K:CfgL} {r:Int} (h:numsP K r=true):1≤r∧r≤4:=by
 unfold numsP at h;simp only [Bool.and_eq_true] at h;exact zbd.1 h.1.1.1.1.1.1
theorem zq1 {c:CfgD} {K:CfgL} (hK:K=c.L) (hlzl:K.zl≤1000000) (hlcl:K.cl≤1000000) (hltl:K.tl≤1000000) (hlvl:K.vl≤1000000) (hlrl:K.rl≤1000000) (hlol:K.ol≤1000000):TriP Tryz.prog 159 [cfgS K c] (cfgM K) (vI (tvalP K c)):=by
 obtain ⟨A,hA,FG⟩:=aF;unfold GenF at FG;simp only [tvalP];obtain ⟨N,hN⟩:=nm (numsP K c.regions);obtain ⟨Pl,hPl⟩:=nm (placesP K c.regions);obtain ⟨Vs,hVs⟩:=nm (valsP K c);obtain ⟨rm,hrm⟩:=nm ((K.rl:Int).tmod 2);simp only [←hN,←hPl,←hVs,←hrm]
 have FC:=cfgF hA hK
 unfold CfgF at FC
 have f0:A.rem (A.len K.rl) 2=rm:=by
  rw [hA];rw [hrm];rfl
 have f1:A.not (A.eq 2 0)=true:=by rw [hA];rfl
 have tn:=zyh hK
 try simp only [←hN,←hPl,←hVs,←hrm] at tn
 have tp:=fun h:numsP K c.regions=true=>zn2 hK hlzl hlcl hltl hlvl hlrl hlol (zzi h)
 try simp only [←hN,←hPl,←hVs,←hrm] at tp
 have tv:=zn1 hK hlzl hlcl hltl hlvl hlrl hlol
 try simp only [←hN,←hPl,←hVs,←hrm] at tv
 change Hid _ at hA hK hN hPl hVs hrm
 refine zad (D:=ords159) (fnO zvf Tryz.func159) 20 (fun w0 own ps R hpl hR kE=>?_)
 refine kN ?_
 repeat' (conv=>arg 3;try cbv);first
  | ((with_reducible refine kC ?_);(first|refine nP [.same 0,.same 1,.same 2,.same 3,.same 4,.same 5] tn ?_|refine nP [.same 0,.same 1,.same 2,.same 3,.same 4,.same 5] (tp (by assumption)) ?_|refine nP [.same 0,.same 1,.same 2,.same 3,.same 4,.same 5] tv ?_))
  | ((with_reducible refine kG ?_);refine kO1 hR 6 ⟨?_,by rfl⟩)
  | simp only [FG,FC, *]
  | (split<;>(rename_i hsp;try simp only [FG] at hsp))
 all_goals ((try simp only [f0,f1]);try clear hR hpl FG FC f0 f1 tn tp tv;replace hA:=hA.out;subst hA;first|rfl|(simp_all [std];done)|(cases K;cases c;try dsimp only at *; (try simp_all [std])<;>(first|rfl|(intros;omega)|(split<;>first|omega|rfl|(simp_all;done))|grind)))
theorem zye (r:Int) (ld sh pr la al gr:Int) (no:Bool):TriP Tryz.prog 160 [.agg [.val (iv ld),.val (iv sh),.val (iv pr),.val (iv la),.val (iv al),.val (iv gr),.val (.bool no)],.one (.val (.int .i64 r))] ([]) (vB (permV ld sh pr la al gr r)):=by
 obtain ⟨A,hA,FG⟩:=aF;unfold GenF at FG;simp only [permV];obtain ⟨W,hW⟩:=nm (inB)
 obtain ⟨al9,hal9⟩:=nm (std.sub .i64 (std.shl .i64 1 (std.conv .u64 r)) 1)
 simp only [←hW,←hal9]
 have f0:∀ x,A.le 0 (A.conv .u64 x)=true:=by
  rw [hA];exact ule
 have f1:A.sub .i64 (A.shl .i64 1 (A.conv .u64 r)) 1=al9:=by
  rw [hA];rw [hal9]
 have nw:=fun n lo hi=>zop n lo hi
 try simp only [←hW,←hal9] at nw
 change Hid _ at hA hW hal9
 refine zad (D:=ords160) (fnO zve Tryz.func160) 37 (fun w0 own ps R hpl hR kE=>?_)
 refine kN ?_
 repeat' (conv=>arg 3;try cbv);first
  | ((with_reducible refine kC ?_);refine nP [] (nw _ _ _) ?_)
  | ((with_reducible refine kG ?_);refine kO1 hR 0 ⟨?_,by rfl⟩)
  | simp only [*]
  | (split<;>(rename_i hsp;try simp only [FG] at hsp))
 all_goals ((try simp only [f0,f1]);try clear hR hpl FG f0 f1 nw;replace hA:=hA.out;subst hA;first|rfl|(simp_all [std];done)|( (try simp_all [std])<;>(first|rfl|(intros;omega)|(split<;>first|omega|rfl|(simp_all;done))|grind)))
theorem zrh {c:CfgD} {K:CfgL} (hK:K=c.L) (hlzl:K.zl≤1000000) (hlcl:K.cl≤1000000) (hltl:K.tl≤1000000) (hlvl:K.vl≤1000000) (hlrl:K.rl≤1000000) (hlol:K.ol≤1000000):TriP Tryz.prog 90 [cfgS K c] (cfgM K) (vI (validK K c)):=by
 obtain ⟨A,hA,FG⟩:=aF;unfold GenF at FG;simp only [validK,permP];obtain ⟨X,hX⟩:=nm (tvalP K c);obtain ⟨PV,hPV⟩:=nm (permV)
 obtain ⟨Ya,hYa⟩:=nm ((List.range K.tl).all fun (i:Nat)=>PV (K.load (Int.ofNat i)) (K.shadow (Int.ofNat i)) (K.prio (Int.ofNat i)) (K.lag (Int.ofNat i)) (K.allowed (Int.ofNat i)) (K.group (Int.ofNat i)) c.regions)
 simp only [←hX,←hPV,←hYa]
 have l1a:∀ i:Nat,A.lt (Int.ofNat i) (A.len K.tl)=true→A.inb (Int.ofNat i) K.tl=true:=by rw [hA];intro i;simp [std]
 have l2a:∀ i:Nat,A.lt (Int.ofNat i) (A.len K.tl)=true→A.add .i64 (Int.ofNat i) 1=Int.ofNat (i+1):=by rw [hA];intro i h;have hb:=(show K.tl≤1000000 by exact hltl);exact za3 (by simpa [std] using h) hb
 have l3a:∀ i:Nat,A.lt (Int.ofNat i) (A.len K.tl)=true→i<K.tl:=by rw [hA];intro i;simp [std]
 have l4a:∀ i:Nat,A.lt (Int.ofNat i) (A.len K.tl)=false→K.tl≤i:=by rw [hA];intro i;simp [std]
 have da:(∀ k:Nat,k<K.tl→PV (K.load (Int.ofNat k)) (K.shadow (Int.ofNat k)) (K.prio (Int.ofNat k)) (K.lag (Int.ofNat k)) (K.allowed (Int.ofNat k)) (K.group (Int.ofNat k)) c.regions=true)→Ya=true:=by
  try rw [hA]
  intro h;rw [hYa];refine List.all_eq_true.2 fun i hi=>?_;have:=h i (List.mem_range.1 hi);simp_all [std]
 have ma:∀ i:Nat,i<K.tl→PV (K.load (Int.ofNat i)) (K.shadow (Int.ofNat i)) (K.prio (Int.ofNat i)) (K.lag (Int.ofNat i)) (K.allowed (Int.ofNat i)) (K.group (Int.ofNat i)) c.regions=false→Ya=false:=by
  try rw [hA]
  intro i hi;rw [hYa];intro h;rw [Bool.eq_false_iff];intro h2;have:=List.all_eq_true.1 h2 i (List.mem_range.2 hi);simp_all [std]
 have FC:=cfgF hA hK
 unfold CfgF at FC
 have tt:=zq1 hK hlzl hlcl hltl hlvl hlrl hlol
 try simp only [←hX,←hPV,←hYa] at tt
 have tp:=fun ld sh pr la al gr no r=>zye r ld sh pr la al gr no
 try simp only [←hX,←hPV,←hYa] at tp
 change Hid _ at hA hK hX hPV hYa
 refine zad (D:=ords90) (fnO zyv Tryz.func90) 23 (fun w0 own ps R hpl hR kE=>?_)
 refine kN ?_
 repeat' (conv=>arg 3;try cbv);first
  | ((with_reducible refine kC ?_);(first|refine nP [.same 0,.same 1,.same 2,.same 3,.same 4,.same 5] tt ?_|refine nP [] (tp _ _ _ _ _ _ _ _) ?_))
  | (((with_reducible refine kL ?_);refine zau 0 (α:={ i:Nat // i≤K.tl∧∀ k:Nat,k<i→PV (K.load (Int.ofNat k)) (K.shadow (Int.ofNat k)) (K.prio (Int.ofNat k)) (K.lag (Int.ofNat k)) (K.allowed (Int.ofNat k)) (K.group (Int.ofNat k)) c.regions=true }) [2,5,15,16,17,18,19,20,21,22,23] (fun x=>[(14,.one (.val (.int .i64 (Int.ofNat x.1))))]) (fun x=>K.tl-x.1) ⟨0,Nat.zero_le _,fun k hk=>absurd hk (Nat.not_lt_zero k)⟩ (by cbv;simp) (fun x y hy=>za0 hy trivial) rfl (fun x L' hoka hL1a hL2a=>?_);obtain ⟨ia,hia,hpreva⟩:=x;dsimp only;refine kN ?_))
  | (((with_reducible refine kA ?_);have hlt:=l3a ia (by assumption);have hstep:=l2a ia (by assumption);refine zao ⟨rfl,rfl,rfl⟩ hoka hL2a ⟨ia+1,hlt,fun k hk=>?_⟩ (show K.tl-(ia+1)<K.tl-ia by omega) (by dsimp only;simp only [hstep, *];cbv;simp) rfl;rcases Nat.lt_succ_iff_lt_or_eq.1 hk with hk1|hk1;exact hpreva k hk1;subst hk1;first|exact (by assumption)))
  | ((with_reducible refine kG ?_);refine kO1 hR 6 ⟨?_,by rfl⟩)
  | simp only [FG,FC, *]
  | (split<;>(rename_i hsp;try simp only [FG] at hsp))
 all_goals ((try (have ea:=da (fun k hk=>hpreva k (Nat.lt_of_lt_of_le hk (l4a ia (by assumption))))));(try (have ea:=ma ia (l3a ia (by assumption)) (by assumption)));(try clear hR hpl);(try clear da ma l1a l2a l3a l4a);(try clear FG FC);replace hA:=hA.out;(first|(simp_all;done)|(simp_all [std];done)|grind))
end Go.Proofs.YtpigpajgjdcagaaGreat
