/- Parts. -/
import Derived.Test.YtpigpajgjdcagaaGreatVa
import Derived.Test.YtpigpajgjdcagaaGreatVg
import Derived.Test.YtpigpajgjdcagaaGreatVt
import Derived.Deep.Slices
import Derived.Lib.SmallJoins
import Derived.ChangeArms
import Derived.Test.YtpigpajgjdcagaaGreatRows
import Derived.WalkKit
import Derived.ProofKit
import Derived.JoinedOf
set_option linter.unusedSimpArgs false
set_option linter.unusedVariables false
set_option maxRecDepth 100000
set_option maxHeartbeats 60000000
namespace Go.Proofs.YtpigpajgjdcagaaGreat
open Go.ChangeShapes Go.WideShapes Go.ChangeAt Go.RowKit Go.Deep Go.Joins
theorem zw8 {α:Type}:∀ (n:Nat) (p:Nat→α→Prop),(∀ i,i<n→∃ x,p i x)→∃ l:List α,l.length=n∧∀ i x,l[i]?=some x→p i x
 | 0,_,_=>⟨[],rfl,by simp⟩
 | n + 1, p, h => by
   obtain ⟨l,hl,hc⟩:=zw8 n p (fun i hi=>h i (by omega))
   obtain ⟨x,hx⟩:=h n (by omega)
   refine ⟨l++[x],by simp [hl],fun i y hy=>?_⟩
   rcases Nat.lt_or_ge i l.length with h|h
   ·rw [List.getElem?_append_left h] at hy;exact hc i y hy
   ·rw [List.getElem?_append_right h] at hy
    have:i=l.length:=by
     have:=(List.getElem?_eq_some_iff.1 hy).1
     simp at this;omega
    subst this;simp at hy;subst hy;rw [hl];exact hx
section
variable {H:Type} {enc:TypeId × Value→H} {P:Program} {W:World} {spare:Nat→Bool} {held:Bool}
theorem zwu {α:Type} (f:α→Value) {t e:TypeId} {v:Value} {d:DataW H} {p:List MemPlace} (ht:P.underlying t=some (.slice e)) (hC:P.cellsOf e=1)
 (hf:∀ n cs (x:DataW H × List MemPlace),DataW.trod enc P W 0 spare held n e cs=some x→∃ a,cs=[f a]) (h:DataW.Trod enc P W 0 spare held t v d p) (hv:∃ A n c,v=.slice A n c) :
 ∃ (A:Option Addr) (l:List α) (c:Nat),v=.slice A l.length c∧l.length≤c∧c≤maxLen∧Rd W W.heap.size A (l.map f):=by
 obtain ⟨fuel,hfu⟩:=h;obtain ⟨A0,n0,c0,rfl⟩:=hv
 rcases open_slice ht hfu with ⟨hcs,_⟩|⟨a,len,cap,m,n,D,Pl,hcs,_,hl,hm,hmm,_,hi⟩
 ·simp [Value.cells] at hcs
  obtain ⟨rfl,rfl,rfl⟩:=hcs
  exact ⟨none,[],0,rfl,by simp,by simp,Rd.nil⟩
 ·simp [Value.cells] at hcs
  obtain ⟨rfl,rfl,rfl⟩:=hcs
  have hlm:n0≤m:=by rw [hmm];split<;>omega
  have hex:∀ i,i<n0→∃ x:α,W.cell? (a.add i)=some (f x):=fun i him=>by
   obtain ⟨cs',hc,ht'⟩:=hi i (by omega)
   obtain ⟨x,rfl⟩:=hf n cs' _ ht';rw [hC,Nat.mul_one] at hc;obtain ⟨_,_,hat⟩:=World.cells?_some hc
   have h0:=hat 0 (by omega)
   exact ⟨x,by simpa [Addr.add] using h0⟩
  obtain ⟨l,rfl,hc⟩:=zw8 n0 (fun i x=>W.cell? (a.add i)=some (f x)) hex
  refine ⟨some a,l,c0,rfl,hl,hm,fun j u hu=>?_⟩
  rw [List.getElem?_map] at hu;obtain ⟨x,hx,rfl⟩:=Option.map_eq_some_iff.1 hu
  have:=hc j x hx
  exact ⟨a,rfl,by have h1:=World.block_lt_of_cell? _ _ this;rwa [zn2] at h1,this⟩
theorem zir {t e:TypeId} {r:Reach} {b0:Nat} {v:Value} {d:DataW H} {p:List MemPlace} (ht:P.underlying t=some (.slice e)) (he:P.underlying e=some (.int .i64)) (hC:P.cellsOf e=1) (hv:Value.okWide P W r b0 t v) (h:DataW.Trod enc P W 0 spare held t v d p) :
 ∃ (A:Option Addr) (l:List Int) (c:Nat),v=.slice A l.length c∧l.length≤c∧c≤maxLen∧Rd W W.heap.size A (l.map (Value.int .i64)) :=
 zwu (Value.int .i64) ht hC (fun n cs x hx=>by obtain ⟨b,rfl,_⟩:=DataW.trod_int he hx;exact ⟨b,rfl⟩) h (okWide_slice ht hv)
end
theorem Tryz.own:ownKnob Tryz.prog.godebug=none:=by kernel_rfl
theorem Tryz.laidOut:laidOutB Tryz.prog=true:=by kernel_rfl
end Go.Proofs.YtpigpajgjdcagaaGreat
namespace Go.Proofs.YtpigpajgjdcagaaGreat
open Go.ChangeShapes Go.WideShapes Go.ChangeAt Go.RowKit Go.Joins Eng
set_option maxRecDepth 10000
theorem qcz (l:List Int) {A:Option Addr} {c:Nat} {W:World} (hl:l.length≤c) (hA:(A=none∧l.length=0∧c=0)∨∃ a,A=some a∧a.spot=none)
 (hR:∀ j u,(l.map iv)[j]?=some u→∃ ad,A=some ad∧ad.block<W.heap.size∧W.cell? (ad.add j)=some u) :
 ∃ p:Nat × Nat,Value.slice A l.length c=rslV p l.length∧(∀ ρ,BlkAt ρ W p (.rs l.length (l.map iv)))∧(l≠[]→p.1<W.heap.size):=by
 have one:∀ u∈l.map iv,u.oneCell'=true:=fun u hu=>by
  obtain ⟨x,_,rfl⟩:=List.mem_map.1 hu;rfl
 rcases hA with ⟨rfl,h0,rfl⟩|⟨a,rfl,ha⟩
 ·refine ⟨(0,0),by rw [h0];rfl,fun ρ=>⟨.inr ⟨h0,rfl⟩,fun j v hj=>?_,one⟩,fun h=>absurd (List.length_eq_zero_iff.1 h0) h⟩
  have:=(List.getElem?_eq_some_iff.1 hj).1
  simp at this;omega
 ·obtain ⟨m,hm⟩:=zls a.off c
  obtain ⟨b,o,s⟩:=a;obtain rfl:s=none:=ha
  have hoff:off (b,m+1)=o:=by simp [off,hm]
  have hroom:room (b,m+1)=c:=by simp [room,hm]
  refine ⟨(b,m+1),?_,fun ρ=>⟨.inl (by rw [hroom];exact hl),fun j v hj=>?_,one⟩,fun h=>?_⟩
  ·rw [zc4 (by simp),hoff,hroom]
  ·obtain ⟨ad,h1,_,h3⟩:=hR j v hj
   obtain rfl:=Option.some.inj h1;rw [hoff]
   cases j with
   | zero=>exact h3
   | succ j=>exact h3
  ·cases l with
   | nil=>exact absurd rfl h
   | cons x l =>
     obtain ⟨ad,h1,h2,_⟩:=hR 0 (iv x) rfl;obtain rfl:=Option.some.inj h1;exact h2
theorem qcu {W:World} {p:Nat × Nat} {n:Nat} {l:List Value} (h:∀ ρ,BlkAt ρ W p (.rs n l)) (hb:l≠[]→p.1<W.heap.size):Sat W [] (fun _=>p) [.rs n l] W:=by
 refine ⟨Gr.refl _ _,fun k b hk=>?_,fun b hb'=>?_,fun k b hk=>?_,fun k j b c hk hj hne i hi=>?_⟩
 ·cases k with
  | zero => obtain rfl : MB.rs n l = b := by simpa using hk
            exact h _
  | succ k=>simp at hk
 ·obtain rfl:=List.mem_singleton.1 hb'
  trivial
 ·cases k with
  | zero =>
    obtain rfl:MB.rs n l=b:=by simpa using hk
    refine ⟨fun i hi=>?_,fun i hi=>?_⟩
    ·cases hi.1
    ·obtain ⟨h1,rfl⟩:=hi
     exact hb (fun he=>by subst he;cases h1)
  | succ k=>simp at hk
 ·cases k with
  | zero => obtain rfl : MB.rs n l = b := by simpa using hk
            cases hi.1
  | succ k=>simp at hk
theorem law1i {P:Program} {f:FuncId} {l:List Int} {x:Int} (ht:TriP P f [.one (.rsl 0 l.length),.one (.val (.int .i64 x))] [.rs l.length (l.map iv)] (vB true)) {W:World} {p:Nat × Nat} (h:∀ ρ,BlkAt ρ W p (.rs l.length (l.map iv))) (hb:l≠[]→p.1<W.heap.size) :
 Calls P f #[rslV p l.length,.int .i64 x] W fun e W'=>e=.returned (.bool true)∧Below W.heap.size W W':=by
 refine (ht.2 W [] (fun _=>p) W (qcu h (fun he=>hb (fun h0=>he (by rw [h0];rfl)))) (fun v hv=>?_)).mono ?_
 ·simp only [List.mem_cons,List.not_mem_nil,or_false] at hv
  rcases hv with rfl|rfl
  ·exact Nat.zero_lt_one
  ·trivial
 ·rintro e W' ⟨v,m,ρ',rfl,⟨rfl,rfl⟩,_,_,_,H⟩
  exact ⟨rfl,qby H.gr⟩
section
variable {P:Program} {W:World} {H:Type} {enc:TypeId × Value→H} {spare:Nat→Bool} {held:Bool}
theorem zxh {e:TypeId} {t:TypeId} {r:Reach} {b0:Nat} {A:Option Addr} {n c:Nat} (ht:P.underlying t=some (.slice e)) (hv:Value.okWide P W r b0 t (.slice A n c)):(A=none∧n=0∧c=0)∨∃ a,A=some a∧a.spot=none:=by
 simp only [Value.okWide,ht,Cell.okWide] at hv
 cases A with
 | none =>
   unfold Cell.ok at hv;rw [ht] at hv
   split at hv<;>simp_all
 | some a =>
   refine .inr ⟨a,rfl,?_⟩;unfold Cell.ok at hv;rw [ht] at hv;exact hv.2.2.2.1
end
end Go.Proofs.YtpigpajgjdcagaaGreat
namespace Go.Proofs.YtpigpajgjdcagaaGreat
open Go.ChangeShapes Go.WideShapes Go.ChangeAt Go.RowKit
theorem zxc:laidOutB Tryz.prog=true:=by kernel_rfl
theorem zxb:mapsRowed Tryz.prog=true:=by kernel_rfl
theorem zqz:Tryz.prog.stopsHeard=true:=by kernel_rfl
theorem zq0:Tryz.prog.mayEnter=true:=by kernel_rfl
end Go.Proofs.YtpigpajgjdcagaaGreat
