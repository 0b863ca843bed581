/- Parts. -/
import Derived.Test.YtpigpajgjdcagaaGreatUf
import Derived.Test.YtpigpajgjdcagaaGreatUp4
set_option linter.unusedSimpArgs false
set_option linter.unusedVariables false
set_option maxRecDepth 100000
set_option maxHeartbeats 60000000
namespace Go.Proofs.YtpigpajgjdcagaaGreat
open Go.RowKit
section
variable {c:CfgD} {s:StD} {e:EnD}
theorem zcm {x:Int} (hx:x≠0) {p:Prop} (h:(no x).1=0):p:=absurd h hx
theorem zi6 (h:StOk c s) (hr:(fitD c s).1=0):StOk c (fitD c s).2:=by
 revert hr
 unfold fitD
 split
 ·exact fun hr=>zcm (by omega) hr
 ·exact fun _=>h
theorem zj1 {α:Type} {p:α→Prop} {l:List α} {n:Nat} {x:α} (h:∀ y∈l,p y) (hx:p x):∀ y∈l.set n x,p y:=fun y hy=>by
 rcases List.mem_or_eq_of_mem_set hy with h1|rfl
 ·exact h y h1
 ·exact hx
theorem StOk.setT (h:StOk c s) {i:Int} {t:TsD} (ht:TsOk c t):StOk c (s.setT i t) :=
 ⟨h.tick,h.count,by simpa [StD.setT] using h.tl,h.cl,zj1 h.ten ht,h.cel,h.proven,h.evac,h.low,h.high⟩
theorem StOk.setC (h:StOk c s) {i:Int} {x:CsD} (hx:CsOk c x):StOk c (s.setC i x) :=
 ⟨h.tick,h.count,h.tl,by simpa [StD.setC] using h.cl,h.ten,zj1 h.cel hx,h.proven,h.evac,h.low,h.high⟩
theorem StOk.tenOk (h:StOk c s) {i:Int} (h0:0≤i) (h1:i<c.tens.length):TsOk c (s.ten i):=by
 have hl:i.toNat<s.tens.length:=by rw [h.tl];omega
 have:s.ten i=s.tens[i.toNat]:=by simp [StD.ten,List.getD,hl]
 rw [this];exact h.ten _ (List.getElem_mem hl)
theorem StOk.celOk (h:StOk c s) {i:Int} (h0:0≤i) (h1:i<c.cells.length):CsOk c (s.cel i):=by
 have hl:i.toNat<s.cells.length:=by rw [h.cl];omega
 have:s.cel i=s.cells[i.toNat]:=by simp [StD.cel,List.getD,hl]
 rw [this];exact h.cel _ (List.getElem_mem hl)
theorem zv2 (h:StOk c s) (ht:0≤e.tenant∧e.tenant<c.tens.length) (hc:0≤e.cell∧e.cell<c.cells.length) (ho:-1≤e.other∧e.other<c.cells.length) (hr:(placeD c s e).1=0):StOk c (placeD c s e).2:=by
 have t:=h.tenOk ht.1 ht.2
 revert hr
 unfold placeD
 repeat' split
 all_goals intro hr
 all_goals first
  | exact zcm (by omega) hr
  | exact zi6 (h.setT ⟨⟨by show -1≤e.cell;omega,hc.2⟩,ho,t.next,t.target,t.epoch,t.wcell,t.wepoch,t.wver,t.lo,t.hi,fun _=>hc.1,fun _=>rfl⟩) hr
theorem zwq (h:StOk c s) (ht:0≤e.tenant∧e.tenant<c.tens.length) (hc:0≤e.cell∧e.cell<c.cells.length) (he:1≤e.epoch∧e.epoch≤1048576) (hl:0≤e.lo∧e.lo≤1073741824) (hh:0≤e.hi∧e.hi≤1073741824) (hn:0≤e.n∧e.n<30) (hr:(grantD c s e).1=0):StOk c (grantD c s e).2:=by
 have t:=h.tenOk ht.1 ht.2
 have hc':-1≤e.cell∧e.cell<c.cells.length:=⟨by omega,hc.2⟩
 have he':0≤e.epoch∧e.epoch≤1048576:=⟨by omega,he.2⟩
 have hl':0≤e.lo∧e.lo≤1073741825:=⟨hl.1,by omega⟩
 have hh':0≤e.hi∧e.hi≤1073741825:=⟨hh.1,by omega⟩
 have hm:-1≤(-1:Int)∧(-1:Int)<c.cells.length:=⟨by omega,by omega⟩
 revert hr
 unfold grantD;simp only []
 by_cases h1:(s.ten e.tenant).placed=false∨(s.ten e.tenant).shed=true∧e.cell≠(s.ten e.tenant).standby
 ·rw [if_pos h1];exact fun hr=>zcm (by omega) hr
 rw [if_neg h1]
 have hp:(s.ten e.tenant).placed=true:=by simpa using fun hp=>h1 (.inl hp)
 repeat' split
 all_goals intro hr
 ·exact zcm (by omega) hr
 ·rename_i h2;exact absurd hr h2
 ·refine zi6 (h.setT ?_) hr
  unfold grantT;simp only []
  repeat' split
  ·exact ⟨t.home,t.standby,t.next,t.target,he',hc',he',hn,hl',hh',t.placed,t.shed⟩
  ·exact ⟨hc',hm,hm,hm,he',hc',he',hn,hl',hh',fun _=>hc.1,fun h=>by cases h⟩
  ·exact ⟨hc',t.standby,t.next,hm,he',hc',he',hn,hl',hh',fun _=>hc.1,fun _=>hp⟩
theorem qcp (h:StOk c s) (ht:0≤e.tenant∧e.tenant<c.tens.length) (hk:0≤e.tick∧e.tick≤1073741824) (hr:(cutD s e).1=0):StOk c (cutD s e).2:=by
 have t:=h.tenOk ht.1 ht.2
 have hlo:=t.lo
 have hhi:=t.hi
 revert hr
 unfold cutD;simp only []
 repeat' split
 all_goals intro hr
 ·exact zcm (by omega) hr
 ·exact zcm (by omega) hr
 ·refine h.setT ⟨t.home,t.standby,t.next,t.target,t.epoch,t.wcell,t.wepoch,t.wver,?_,?_,t.placed,t.shed⟩<;>simp only [cutW]<;>omega
theorem zov (h:StOk c s) (ht:0≤e.tenant∧e.tenant<c.tens.length) (hc:-1≤e.cell∧e.cell<c.cells.length) (hr:(standbyD c s e).1=0):StOk c (standbyD c s e).2:=by
 have t:=h.tenOk ht.1 ht.2
 revert hr
 unfold standbyD;simp only []
 repeat' split
 all_goals intro hr
 all_goals first
  | exact zcm (by omega) hr
  | exact zi6 (h.setT ⟨t.home,t.standby,hc,t.target,t.epoch,t.wcell,t.wepoch,t.wver,t.lo,t.hi,t.placed,t.shed⟩) hr
theorem zvs (h:StOk c s) (ht:0≤e.tenant∧e.tenant<c.tens.length) (hc:0≤e.cell∧e.cell<c.cells.length) (hr:(readyD s e).1=0):StOk c (readyD s e).2:=by
 have t:=h.tenOk ht.1 ht.2
 revert hr
 unfold readyD;simp only []
 repeat' split
 all_goals intro hr
 all_goals first
  | exact zcm (by omega) hr
  | exact h.setT ⟨t.home,⟨by show -1≤e.cell;omega,hc.2⟩,⟨by show (-1:Int)≤-1;omega,by show (-1:Int)<_;omega⟩,t.target,t.epoch,t.wcell,t.wepoch,t.wver,t.lo,t.hi,t.placed,t.shed⟩
theorem zo4 (h:StOk c s) (ht:0≤e.tenant∧e.tenant<c.tens.length) (hc:0≤e.cell∧e.cell<c.cells.length) (hr:(migrateD c s e).1=0):StOk c (migrateD c s e).2:=by
 have t:=h.tenOk ht.1 ht.2
 revert hr
 unfold migrateD;simp only []
 repeat' split
 all_goals intro hr
 all_goals first
  | exact zcm (by omega) hr
  | exact zi6 (h.setT ⟨t.home,t.standby,t.next,⟨by show -1≤e.cell;omega,hc.2⟩,t.epoch,t.wcell,t.wepoch,t.wver,t.lo,t.hi,t.placed,t.shed⟩) hr
theorem zpl (h:StOk c s) (ht:0≤e.tenant∧e.tenant<c.tens.length) (hr:(abandonD s e).1=0):StOk c (abandonD s e).2:=by
 have t:=h.tenOk ht.1 ht.2
 revert hr
 unfold abandonD;simp only []
 repeat' split
 all_goals intro hr
 all_goals first
  | exact zcm (by omega) hr
  | exact h.setT ⟨t.home,t.standby,t.next,⟨by show (-1:Int)≤-1;omega,by show (-1:Int)<_;omega⟩,t.epoch,t.wcell,t.wepoch,t.wver,t.lo,t.hi,t.placed,t.shed⟩
theorem zzb (h:StOk c s) (ht:0≤e.tenant∧e.tenant<c.tens.length) (hr:(shedD c s e).1=0):StOk c (shedD c s e).2:=by
 have t:=h.tenOk ht.1 ht.2
 revert hr
 unfold shedD;simp only []
 by_cases h1:e.n=1
 ·rw [if_pos h1]
  by_cases h2:(s.ten e.tenant).placed=false∨(s.ten e.tenant).shed=true
  ·rw [if_pos h2];exact fun hr=>zcm (by omega) hr
  rw [if_neg h2]
  have hp:(s.ten e.tenant).placed=true:=by simpa using fun hp=>h2 (.inl hp)
  split
  ·exact fun hr=>zcm (by omega) hr
  ·exact fun _=>h.setT ⟨t.home,t.standby,t.next,⟨by show (-1:Int)≤-1;omega,by show (-1:Int)<_;omega⟩,t.epoch,t.wcell,t.wepoch,t.wver,t.lo,t.hi,t.placed,fun _=>hp⟩
 ·rw [if_neg h1]
  repeat' split
  all_goals intro hr
  all_goals first
   | exact zcm (by omega) hr
   | exact zi6 (h.setT ⟨t.home,t.standby,t.next,t.target,t.epoch,t.wcell,t.wepoch,t.wver,t.lo,t.hi,t.placed,fun h=>by cases h⟩) hr
theorem zzk (h:StOk c s) (hc:0≤e.cell∧e.cell<c.cells.length) (hn:1≤e.n∧e.n≤3) (hk:0≤e.tick∧e.tick≤1073741824) (hr:(modeD s e).1=0):StOk c (modeD s e).2:=by
 have x:=h.celOk hc.1 hc.2
 revert hr
 unfold modeD
 split
 ·exact fun hr=>zcm (by omega) hr
 ·exact fun _=>h.setC ⟨hn,x.running,x.wanted,hk⟩
theorem zxx (h:StOk c s) (hc:0≤e.cell∧e.cell<c.cells.length) (hn:0≤e.n∧e.n<c.vers.length) (hr:(wantD c s e).1=0):StOk c (wantD c s e).2:=by
 have x:=h.celOk hc.1 hc.2
 revert hr
 unfold wantD;simp only []
 repeat' split
 all_goals intro hr
 all_goals first
  | exact zcm (by omega) hr
  | exact h.setC ⟨x.mode,x.running,hn,x.since⟩
theorem zzc (h:StOk c s) (hc:0≤e.cell∧e.cell<c.cells.length) (hn:0≤e.n∧e.n<c.vers.length) (hk:0≤e.tick∧e.tick≤1073741824) (hr:(runsD s e).1=0):StOk c (runsD s e).2:=by
 have x:=h.celOk hc.1 hc.2
 revert hr
 unfold runsD;simp only []
 repeat' split
 all_goals intro hr
 all_goals first
  | exact zcm (by omega) hr
  | exact h.setC ⟨x.mode,hn,x.wanted,hk⟩
theorem qa5 {k n:Nat} (hk:k<n):(1 <<< k)<2 ^ n:=by
 rw [Nat.one_shiftLeft]
 exact Nat.pow_lt_pow_right (by omega) hk
theorem zv0 (h:StOk c s) (hn:0≤e.n∧e.n<30) (hr:(proveD c s e).1=0):StOk c (proveD c s e).2:=by
 revert hr
 unfold proveD
 repeat' split
 all_goals intro hr
 ·exact zcm (by omega) hr
 ·have h0:=h.proven
  have h1:s.proven.toNat<2 ^ 30:=by omega
  have h2:s.proven.toNat ||| 1 <<< e.n.toNat<2 ^ 30:=Nat.or_lt_two_pow h1 (qa5 (by omega))
  exact ⟨h.tick,h.count,h.tl,h.cl,h.ten,h.cel,⟨by simp only [orBit];omega,by simp only [orBit];omega⟩,h.evac,h.low,h.high⟩
 ·exact zcm (by omega) hr
theorem zz9 (h:StOk c s) (hn:0≤e.other∧e.other<4) (hr:(evacD s e).1=0):StOk c (evacD s e).2:=by
 revert hr
 unfold evacD
 repeat' split
 all_goals intro hr
 ·exact zcm (by omega) hr
 ·have h0:=h.evac
  have h1:s.evac.toNat<2 ^ 4:=by omega
  have h2:s.evac.toNat ^^^ 1 <<< e.other.toNat<2 ^ 4:=Nat.xor_lt_two_pow h1 (qa5 (by omega))
  exact ⟨h.tick,h.count,h.tl,h.cl,h.ten,h.cel,h.proven,⟨by simp only [xorBit];omega,by simp only [xorBit];omega⟩,h.low,h.high⟩
theorem zsg (h:StOk c s) (hr:(expandD c s).1=0):StOk c (expandD c s).2:=by
 have h0:=h.low
 have h1:=h.high
 revert hr
 unfold expandD
 repeat' split
 all_goals intro hr
 all_goals first
  | exact zcm (by omega) hr
  | exact ⟨h.tick,h.count,h.tl,h.cl,h.ten,h.cel,h.proven,h.evac,⟨h0.1,by show s.low≤s.high+1;omega⟩,by show s.high+1≤30;omega⟩
theorem zno (h:StOk c s) (hr:(contractD s).1=0):StOk c (contractD s).2:=by
 have h0:=h.low
 revert hr
 unfold contractD
 repeat' split
 all_goals intro hr
 ·exact zcm (by omega) hr
 ·exact ⟨h.tick,h.count,h.tl,h.cl,h.ten,h.cel,h.proven,h.evac,⟨by show 0≤s.high;omega,by show s.high≤s.high;omega⟩,h.high⟩
structure EnOk (c:CfgD) (e:EnD):Prop where
 kind:1≤e.kind∧e.kind≤16
 tick:0≤e.tick∧e.tick≤1073741824
 ten:1≤e.kind∧e.kind≤8→0≤e.tenant∧e.tenant<c.tens.length
 cell:e.kind=1∨e.kind=2∨e.kind=5∨e.kind=6∨e.kind=9∨e.kind=10∨e.kind=11→0≤e.cell∧e.cell<c.cells.length
 cell4:e.kind=4→-1≤e.cell∧e.cell<c.cells.length
 other:e.kind=1→-1≤e.other∧e.other<c.cells.length
 region:e.kind=13→0≤e.other∧e.other<c.regions
 epoch:e.kind=2∨e.kind=3→1≤e.epoch∧e.epoch≤1048576
 lo:e.kind=2→0≤e.lo∧e.lo≤1073741824
 hi:e.kind=2→0≤e.hi∧e.hi≤1073741824
 ver:e.kind=2∨e.kind=10∨e.kind=11∨e.kind=12→0≤e.n∧e.n<c.vers.length
 bit:e.kind=8∨e.kind=13→0≤e.n∧e.n≤1
 mode:e.kind=9→1≤e.n∧e.n≤3
theorem zsn (ok:CfgOk c) (hv:validE c e=true):EnOk c e:=by
 have h1:=ok.tens
 have h2:=ok.cells
 have h3:=ok.regions
 have h4:=ok.vers
 have m1:(min (c.tens.length:Int) 32)=c.tens.length:=by omega
 have m2:(min (c.cells.length:Int) 16)=c.cells.length:=by omega
 have m3:(min c.regions 4)=c.regions:=by omega
 have m4:(min (c.vers.length:Int) 30)=c.vers.length:=by omega
 unfold validE at hv;rw [m1,m2,m3,m4] at hv;simp only [rightD,Bool.and_eq_true,zbd] at hv;obtain ⟨⟨⟨hk,htk⟩,hp⟩,hn⟩:=hv;simp only [placesD,Bool.and_eq_true,Bool.or_eq_true,Bool.not_eq_true',uT,uC,uC',uO,uR,inB,decide_eq_true_eq,Bool.and_eq_false_iff,decide_eq_false_iff_not,Bool.or_eq_false_iff] at hp;obtain ⟨⟨⟨⟨⟨⟨⟨_,p1⟩,p2⟩,p3⟩,p4⟩,p5⟩,p6⟩,p7⟩:=hp;simp only [numbersD,Bool.and_eq_true] at hn;obtain ⟨⟨n1,n2⟩,n3⟩:=hn
 refine ⟨hk,htk,fun h=>by omega,fun h=>by omega,fun h=>by omega,fun h=>by omega,fun h=>by omega,fun h=>?_,fun h=>?_,fun h=>?_,fun h=>?_,fun h=>?_,fun h=>?_⟩
 ·rw [if_pos (by simp [uE,inB];omega)] at n1
  exact zbd.1 n1
 ·rw [if_pos (by simp [uW,inB];omega),Bool.and_eq_true] at n2
  exact zbd.1 n2.1
 ·rw [if_pos (by simp [uW,inB];omega),Bool.and_eq_true] at n2
  exact zbd.1 n2.2
 ·rw [if_pos (by simp [uV,inB];omega)] at n3
  have:=zbd.1 n3
  omega
 ·rw [if_neg (by simp [uV,inB];omega),if_pos (by simp [uB,inB];omega)] at n3
  exact zbd.1 n3
 ·rw [if_neg (by simp [uV,inB];omega),if_neg (by simp [uB,inB];omega),if_pos (by simp [uM,inB];omega)] at n3
  exact zbd.1 n3
theorem zzp (ok:CfgOk c) (h:StOk c s) (v:EnOk c e) (hr:(kindD c s e).1=0):StOk c (kindD c s e).2:=by
 have hv:=ok.vers
 have hg:=ok.regions
 revert hr
 unfold kindD
 by_cases k1:e.kind=1
 ·rw [if_pos k1];exact zv2 h (v.ten (by omega)) (v.cell (by omega)) (v.other k1)
 rw [if_neg k1]
 by_cases k2:e.kind=2
 ·rw [if_pos k2];exact zwq h (v.ten (by omega)) (v.cell (by omega)) (v.epoch (by omega)) (v.lo k2) (v.hi k2) (by have:=v.ver (by omega);omega)
 rw [if_neg k2]
 by_cases k3:e.kind=3
 ·rw [if_pos k3];exact qcp h (v.ten (by omega)) v.tick
 rw [if_neg k3]
 by_cases k4:e.kind=4
 ·rw [if_pos k4];exact zov h (v.ten (by omega)) (v.cell4 k4)
 rw [if_neg k4]
 by_cases k5:e.kind=5
 ·rw [if_pos k5];exact zvs h (v.ten (by omega)) (v.cell (by omega))
 rw [if_neg k5]
 by_cases k6:e.kind=6
 ·rw [if_pos k6];exact zo4 h (v.ten (by omega)) (v.cell (by omega))
 rw [if_neg k6]
 by_cases k7:e.kind=7
 ·rw [if_pos k7];exact zpl h (v.ten (by omega))
 rw [if_neg k7]
 by_cases k8:e.kind=8
 ·rw [if_pos k8];exact zzb h (v.ten (by omega))
 rw [if_neg k8]
 by_cases k9:e.kind=9
 ·rw [if_pos k9];exact zzk h (v.cell (by omega)) (v.mode k9) v.tick
 rw [if_neg k9]
 by_cases k10:e.kind=10
 ·rw [if_pos k10];exact zxx h (v.cell (by omega)) (v.ver (by omega))
 rw [if_neg k10]
 by_cases k11:e.kind=11
 ·rw [if_pos k11];exact zzc h (v.cell (by omega)) (v.ver (by omega)) v.tick
 rw [if_neg k11]
 by_cases k12:e.kind=12
 ·rw [if_pos k12];exact zv0 h (by have:=v.ver (by omega);omega)
 rw [if_neg k12]
 by_cases k13:e.kind=13
 ·rw [if_pos k13];exact zz9 h (by have:=v.region k13;omega)
 rw [if_neg k13]
 by_cases k14:e.kind=14
 ·rw [if_pos k14];exact zsg h
 rw [if_neg k14]
 by_cases k15:e.kind=15
 ·rw [if_pos k15];exact zno h
 rw [if_neg k15]
 exact fun _=>h
theorem znx (ok:CfgOk c) (h:StOk c s) (hr:(applyD c s e).1=0):StOk c (applyD c s e).2:=by
 revert hr
 unfold applyD
 by_cases hv:validE c e=false
 ·rw [if_pos hv];exact fun hr=>zcm (by omega) hr
 rw [if_neg hv]
 by_cases h2:4096≤s.count
 ·rw [if_pos h2];exact fun hr=>zcm (by omega) hr
 rw [if_neg h2]
 by_cases h3:e.tick<s.tick
 ·rw [if_pos h3];exact fun hr=>zcm (by omega) hr
 rw [if_neg h3]
 have v:=zsn ok (by simpa using hv)
 have hc:=h.count
 exact zzp ok ⟨v.tick,⟨by show 0≤s.count+1;omega,by show s.count+1≤4096;omega⟩,h.tl,h.cl,h.ten,h.cel,h.proven,h.evac,h.low,h.high⟩ v
theorem zk4 (ok:CfgOk c):StOk c (newSt c):=by
 have hv:=ok.vers
 refine ⟨⟨by simp [newSt],by simp [newSt]⟩,⟨by simp [newSt],by simp [newSt]⟩,by simp [newSt],by simp [newSt],fun t ht=>?_,fun x hx=>?_,⟨by simp [newSt],by simp [newSt]⟩,⟨by simp [newSt],by simp [newSt]⟩,⟨by simp [newSt],by simp [newSt]⟩,by simp [newSt]⟩
 ·obtain rfl:t=newT:=(List.mem_replicate.1 ht).2
  refine ⟨?_,?_,?_,?_,?_,?_,?_,?_,?_,?_,fun h=>(by cases h),fun h=>(by cases h)⟩<;>simp only [newT]<;>omega
 ·obtain rfl:x=⟨1,0,0,0⟩:=(List.mem_replicate.1 hx).2
  refine ⟨?_,?_,?_,?_⟩<;>simp only []<;>omega
end
end Go.Proofs.YtpigpajgjdcagaaGreat
namespace Go.Proofs.YtpigpajgjdcagaaGreat
open Go.RowKit Eng
set_option maxRecDepth 10000
theorem PlI.done {E:LogD} {p:PlaneD} (h:PlI E p):p.q.done=E.map (·.2):=by
 rcases h.st with h3|h1
 ·rcases h3.st with ⟨L,_,_,hd⟩|hn
  ·exact hd
  ·exact hn.done
 ·exact h1.done
def noteE (t n:Int):EnD:=⟨16,t,-1,-1,-1,0,0,0,n⟩
theorem zik {t n:Int} (ht:0≤t∧t≤1073741824) (hn:0≤n∧n≤1073741824) (tn cn rn vn:Int):rightD (noteE t n) tn cn rn vn=true:=by
 have e1:placesD (noteE t n) tn cn rn=true:=rfl
 have e2:numbersD (noteE t n) vn=(decide (0≤n) && decide (n≤1073741824)):=rfl
 unfold rightD;rw [e1,e2]
 show (true && (decide (0≤t) && decide (t≤1073741824)) && true && (decide (0≤n) && decide (n≤1073741824)))=true
 simp;omega
theorem zij {t n:Int} (ht:0≤t∧t≤1073741824) (hn:0≤n∧n≤1073741824):shapeB (noteE t n)=true:=by
 unfold shapeB;exact zik ht hn _ _ _ _
theorem zo3 {c:CfgD} {t n:Int} (ht:0≤t∧t≤1073741824) (hn:0≤n∧n≤1073741824):validE c (noteE t n)=true:=by
 unfold validE;exact zik ht hn _ _ _ _
theorem zk2 {c:CfgD} {s:StD} {t n:Int} (hc:s.count<4096) (hst:s.tick≤t) (ht:0≤t∧t≤1073741824) (hn:0≤n∧n≤1073741824):applyD c s (noteE t n)=(0,{ s with tick:=t,count:=s.count+1 }):=by
 unfold applyD
 rw [if_neg (by rw [zo3 ht hn];simp),if_neg (by omega),if_neg (by show ¬ t<s.tick;omega)]
 simp [kindD,noteE]
theorem zvm (s:StD):s.L.ts.length=s.L.tl * 12∧s.L.cs.length=s.L.cl * 4:=by
 constructor
 ·show (s.tens.flatMap TsD.cells).length=s.tens.length * 12
  exact zc5 TsD.cells 12 (fun _=>rfl) s.tens
 ·show (s.cells.flatMap CsD.cells).length=s.cells.length * 4
  exact zc5 CsD.cells 4 (fun _=>rfl) s.cells
theorem zsl {c:CfgD} {s:StD} (ok:CfgOk c) (hs:StOk c s) (t n:Int):ApSt c s (noteE t n):=by
 have h1:=hs.tl;have h2:=hs.cl;have h3:=ok.tens;have h4:=ok.cells
 exact zxu rfl ok hs (zvm s).1 (zvm s).2 (by show s.tens.length≤1000000;omega) (by show s.cells.length≤1000000;omega)
theorem PlI.noteUp {E:LogD} {p:PlaneD} (h:PlI E p) (hr:p.ready=true) (hl:E.length<40) {t n:Int} (hst:p.s.tick≤t) (ht:0≤t∧t≤1073741824) (hn:0≤n∧n≤1073741824) :
 ∃ (t9:Int) (q':QuoD),p.propose (noteE t n)=({ p with q:=q',s:={ p.s with tick:=t,count:=p.s.count+1 } },p.s.count,0)∧PlI (E++[(t9,noteE t n)]) { p with q:=q',s:={ p.s with tick:=t,count:=p.s.count+1 } }:=by
 have hcnt:=h.cnt
 have ha:=zk2 (c:=p.c) (s:=p.s) (t:=t) (n:=n) (by omega) hst ht hn
 obtain ⟨p1,t9,e1,e2,e3⟩:=h.commit hr (zij ht hn);refine ⟨t9,p1.q,?_,?_⟩
 ·unfold PlaneD.propose
  rw [if_neg (by rw [hr];simp)]
  dsimp only
  rw [ha,if_neg (by simp),e1,if_neg (by simp),e2]
 ·have:=e3 hl { p.s with tick:=t,count:=p.s.count+1 } (by show p.s.count+1=_;omega)
  rw [e2] at this;exact this
theorem noteDown {p:PlaneD} (hr:p.ready=false) (e:EnD):p.propose e=(p,0,16):=by
 unfold PlaneD.propose;rw [if_pos hr]
theorem zju {E:LogD} {p:PlaneD} (h:PlI E p) (ok:CfgOk p.c) (hs:StOk p.c p.s) {t n:Int} (ht:0≤t∧t≤1073741824) (hn:0≤n∧n≤1073741824) (W:Nat→Prop):TriX Tryz.prog 47 [.one (.ptr 0 0 0),enS (noteE t n)] [PP p W] (.tup [.one (.val (iv (p.propose (noteE t n)).2.1)),.one (.val (iv (p.propose (noteE t n)).2.2))]) (fun W'=>[PP (p.propose (noteE t n)).1 W']) :=
 zji h (zij ht hn) (zsl ok hs t n) W
theorem zw9 {p:PlaneD} (hp:PlOk p) (q':QuoD) {k:Nat} (hk:k<p.n) (hu:p.isUp (k:Int)=true) {j:Nat} (hj:j<p.n):({ p with up:=p.up-2 ^ k,q:=q' }:PlaneD).isUp (j:Int)=(p.isUp (j:Int) && decide (j≠k)):=by
 have hn:=hp.n3
 have e1:=zc9 (p:=p) (i:=(k:Int)) (by omega)
 have e2:=zc9 (p:=p) (i:=(j:Int)) (by omega)
 have e3:=zc9 (p:=({ p with up:=p.up-2 ^ k,q:=q' }:PlaneD)) (i:=(j:Int)) (by show 0≤(j:Int)∧(j:Int)<(p.n:Int);omega)
 rw [e1] at hu;rw [e2,e3]
 exact (zpn hp.up (by omega) hu).2 j (by omega)
theorem zwo {p:PlaneD} (hp:PlOk p) {k:Nat} (hk:k<p.n) (hu:p.isUp (k:Int)=false) {j:Nat} (hj:j<p.n):({ p with up:=p.up+2 ^ k }:PlaneD).isUp (j:Int)=(p.isUp (j:Int) || decide (j=k)):=by
 have hn:=hp.n3
 have e1:=zc9 (p:=p) (i:=(k:Int)) (by omega)
 have e2:=zc9 (p:=p) (i:=(j:Int)) (by omega)
 have e3:=zc9 (p:=({ p with up:=p.up+2 ^ k }:PlaneD)) (i:=(j:Int)) (by show 0≤(j:Int)∧(j:Int)<(p.n:Int);omega)
 rw [e1] at hu;rw [e2,e3]
 exact (zpm hp.up (by omega) hu).2 j (by omega)
theorem ups3 {p:PlaneD} (hn:p.n=3):p.ups=(p.isUp ((0:Nat):Int)).toNat+(p.isUp ((1:Nat):Int)).toNat+(p.isUp ((2:Nat):Int)).toNat:=by
 unfold PlaneD.ups
 rw [hn,show List.range 3=[0,1,2] from rfl]
 simp only [List.filter_cons,List.filter_nil]
 cases p.isUp ((0:Nat):Int)<;>cases p.isUp ((1:Nat):Int)<;>cases p.isUp ((2:Nat):Int)<;>rfl
theorem ups1 {p:PlaneD} (hn:p.n=1):p.ups=(p.isUp ((0:Nat):Int)).toNat:=by
 unfold PlaneD.ups
 rw [hn,show List.range 1=[0] from rfl]
 simp only [List.filter_cons,List.filter_nil]
 cases p.isUp ((0:Nat):Int)<;>rfl
theorem zx0 {p:PlaneD} (hp:PlOk p) (q':QuoD) {k:Nat} (hk:k<p.n) (hu:p.isUp (k:Int)=true):({ p with up:=p.up-2 ^ k,q:=q' }:PlaneD).ups+1=p.ups:=by
 have h:=fun {j} hj=>zw9 hp q' hk hu (j:=j) hj
 rcases hp.n13 with hn|⟨hn,_⟩
 ·rw [ups3 (p:=p) hn,ups3 (p:={ p with up:=p.up-2 ^ k,q:=q' }) hn,h (j:=0) (by omega),h (j:=1) (by omega),h (j:=2) (by omega)]
  obtain rfl|rfl|rfl:k=0∨k=1∨k=2:=by omega
  all_goals rw [hu];simp<;>omega
 ·rw [ups1 (p:=p) hn,ups1 (p:={ p with up:=p.up-2 ^ k,q:=q' }) hn,h (j:=0) (by omega)]
  obtain rfl:k=0:=by omega
  rw [hu];simp
theorem zxz {p:PlaneD} (hp:PlOk p) {k:Nat} (hk:k<p.n) (hu:p.isUp (k:Int)=false):({ p with up:=p.up+2 ^ k }:PlaneD).ups=p.ups+1:=by
 have h:=fun {j} hj=>zwo hp hk hu (j:=j) hj
 rcases hp.n13 with hn|⟨hn,_⟩
 ·rw [ups3 (p:=p) hn,ups3 (p:={ p with up:=p.up+2 ^ k }) hn,h (j:=0) (by omega),h (j:=1) (by omega),h (j:=2) (by omega)]
  obtain rfl|rfl|rfl:k=0∨k=1∨k=2:=by omega
  all_goals rw [hu];simp<;>omega
 ·rw [ups1 (p:=p) hn,ups1 (p:={ p with up:=p.up+2 ^ k }) hn,h (j:=0) (by omega)]
  obtain rfl:k=0:=by omega
  rw [hu];simp
structure QInv (c:CfgD) (i:Nat) (fl:List Bool) (n:Int) (E:LogD) (p:PlaneD):Prop where
 pl:PlI E p
 cc:p.c=c
 st:StOk c p.s
 tick:p.s.tick≤i
 len:E.length≤i
 fll:fl.length=p.n
 fl:∀ k:Nat,k<p.n→fl.getD k false=!p.isUp (k:Int)
 n:n=p.ups
theorem QInv.fail {c:CfgD} {i:Nat} {fl:List Bool} {n:Int} {E:LogD} {p:PlaneD} (h:QInv c i fl n E p) {k:Nat} (hk:k<p.n) (hu:p.isUp (k:Int)=true):QInv c i (fl.set k true) (n-1) E { p with up:=p.up-2 ^ k,q:=p.q.crash (k:Int) }:=by
 have hp:=h.pl.ok
 refine ⟨(h.pl.fail hk hu).2.2,h.cc,h.st,h.tick,h.len,(List.length_set).trans h.fll,fun j hj=>?_,?_⟩
 ·have hj':j<p.n:=hj
  rw [zw9 hp _ hk hu hj']
  by_cases e:k=j
  ·subst e
   rw [List.getD_eq_getElem?_getD,List.getElem?_set_self (by rw [h.fll];exact hk)]
   simp
  ·rw [List.getD_eq_getElem?_getD,List.getElem?_set_ne e,←List.getD_eq_getElem?_getD,h.fl j hj']
   simp [Ne.symm e]
 ·have:=zx0 hp (p.q.crash (k:Int)) hk hu
  rw [h.n];omega
theorem QInv.heal {c:CfgD} {i:Nat} {fl:List Bool} {n:Int} {E:LogD} {p:PlaneD} (h:QInv c i fl n E p) {k:Nat} (hk:k<p.n) (hu:p.isUp (k:Int)=false):QInv c i (fl.set k false) (n+1) E { p with up:=p.up+2 ^ k }:=by
 have hp:=h.pl.ok
 refine ⟨h.pl.heal hk hu,h.cc,h.st,h.tick,h.len,(List.length_set).trans h.fll,fun j hj=>?_,?_⟩
 ·have hj':j<p.n:=hj
  rw [zwo hp hk hu hj']
  by_cases e:k=j
  ·subst e
   rw [List.getD_eq_getElem?_getD,List.getElem?_set_self (by rw [h.fll];exact hk)]
   simp
  ·rw [List.getD_eq_getElem?_getD,List.getElem?_set_ne e,←List.getD_eq_getElem?_getD,h.fl j hj']
   simp [Ne.symm e]
 ·have:=zxz hp hk hu
  rw [h.n];omega
theorem QInv.rdy {c:CfgD} {i:Nat} {fl:List Bool} {n:Int} {E:LogD} {p:PlaneD} (h:QInv c i fl n E p):p.ready=decide ((fl.length:Int)<2 * n):=by
 unfold PlaneD.ready;rw [h.fll,h.n];rw [Bool.eq_iff_iff];simp;omega
theorem QInv.down {c:CfgD} {i:Nat} {fl:List Bool} {n:Int} {E:LogD} {p:PlaneD} (h:QInv c i fl n E p):QInv c (i+1) fl n E p :=
 ⟨h.pl,h.cc,h.st,by have:=h.tick;omega,by have:=h.len;omega,h.fll,h.fl,h.n⟩
theorem QInv.up {c:CfgD} (ok:CfgOk c) {i:Nat} (hi:i<20) {fl:List Bool} {n:Int} {E:LogD} {p:PlaneD} (h:QInv c i fl n E p) (hr:p.ready=true) {m:Int} (hm:0≤m∧m≤1073741824) :
 ∃ (q':QuoD) (E':LogD) (p':PlaneD),p.propose (noteE i m)=(p',p.s.count,0)∧p'.q.done.length=p.q.done.length+1∧QInv c (i+1) fl n E' p':=by
 have hE:=h.len
 have ht:=h.tick
 obtain ⟨t9,q',e1,e2⟩:=h.pl.noteUp hr (t:=i) (n:=m) (by omega) ht (by omega) hm
 refine ⟨q',E++[(t9,noteE i m)],_,e1,?_,⟨e2,h.cc,?_,by show (i:Int)≤((i+1:Nat):Int);omega,by simp;omega,h.fll,h.fl,h.n⟩⟩
 ·rw [e2.done,h.pl.done]
  simp
 ·have hcnt:=h.pl.cnt
  have ha:=zk2 (c:=c) (s:=p.s) (t:=i) (n:=m) (by omega) ht (by omega) hm
  have:=znx ok h.st (e:=noteE i m) (by rw [ha])
  rw [ha] at this;exact this
theorem qdg {c:CfgD} (hc:c.reps.length=3∨c.reps.length=1) {j:Nat} (hj:j<(PlaneD.new c).n):(PlaneD.new c).isUp (j:Int)=true:=by
 have hn:(PlaneD.new c).n=c.reps.length:=rfl
 rcases hc with h|h
 ·have:j=0∨j=1∨j=2:=by omega
  unfold PlaneD.isUp
  rw [hn,h,show (PlaneD.new c).up=7 by show (2 ^ c.reps.length-1:Int)=7;rw [h];rfl]
  rcases this with rfl|rfl|rfl<;>decide
 ·obtain rfl:j=0:=by omega
  unfold PlaneD.isUp
  rw [hn,h,show (PlaneD.new c).up=1 by show (2 ^ c.reps.length-1:Int)=1;rw [h];rfl]
  decide
theorem qb2 {c:CfgD} (hc:c.reps.length=3∨c.reps.length=1):PlI [] (PlaneD.new c):=by
 rcases hc with h|h
 ·exact zp8 h rfl
 ·exact zzg h rfl
end Go.Proofs.YtpigpajgjdcagaaGreat
