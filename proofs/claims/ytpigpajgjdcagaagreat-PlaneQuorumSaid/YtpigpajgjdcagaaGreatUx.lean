/- Parts. -/
import Derived.Test.YtpigpajgjdcagaaGreatUa
import Derived.Test.YtpigpajgjdcagaaGreatUg
import Derived.Test.YtpigpajgjdcagaaGreatUt
import Derived.Deep.Slices
import Derived.Lib.SmallJoins
import Derived.ChangeArms
import Derived.Test.YtpigpajgjdcagaaGreatRows
import Derived.WalkKit
import Derived.ProofKit
import Derived.JoinedOf
set_option linter.unusedSimpArgs false
set_option linter.unusedVariables false
set_option maxRecDepth 100000
set_option maxHeartbeats 60000000
namespace Go.Proofs.YtpigpajgjdcagaaGreat
open Go.ChangeShapes Go.WideShapes Go.ChangeAt Go.RowKit Go.Deep Go.Joins
theorem zwi {α:Type}:∀ (n:Nat) (p:Nat→α→Prop),(∀ i,i<n→∃ x,p i x)→∃ l:List α,l.length=n∧∀ i x,l[i]?=some x→p i x
 | 0,_,_=>⟨[],rfl,by simp⟩
 | n + 1, p, h => by
   obtain ⟨l,hl,hc⟩:=zwi n p (fun i hi=>h i (by omega))
   obtain ⟨x,hx⟩:=h n (by omega)
   refine ⟨l++[x],by simp [hl],fun i y hy=>?_⟩
   rcases Nat.lt_or_ge i l.length with h|h
   ·rw [List.getElem?_append_left h] at hy;exact hc i y hy
   ·rw [List.getElem?_append_right h] at hy
    have:i=l.length:=by
     have:=(List.getElem?_eq_some_iff.1 hy).1
     simp at this;omega
    subst this;simp at hy;subst hy;rw [hl];exact hx
section
variable {H:Type} {enc:TypeId × Value→H} {P:Program} {W:World} {spare:Nat→Bool} {held:Bool}
theorem zv6 {α:Type} (f:α→Value) {t e:TypeId} {v:Value} {d:DataW H} {p:List MemPlace} (ht:P.underlying t=some (.slice e)) (hC:P.cellsOf e=1)
 (hf:∀ n cs (x:DataW H × List MemPlace),DataW.trod enc P W 0 spare held n e cs=some x→∃ a,cs=[f a]) (h:DataW.Trod enc P W 0 spare held t v d p) (hv:∃ A n c,v=.slice A n c) :
 ∃ (A:Option Addr) (l:List α) (c:Nat),v=.slice A l.length c∧l.length≤c∧c≤maxLen∧Rd W W.heap.size A (l.map f):=by
 obtain ⟨fuel,hfu⟩:=h;obtain ⟨A0,n0,c0,rfl⟩:=hv
 rcases open_slice ht hfu with ⟨hcs,_⟩|⟨a,len,cap,m,n,D,Pl,hcs,_,hl,hm,hmm,_,hi⟩
 ·simp [Value.cells] at hcs
  obtain ⟨rfl,rfl,rfl⟩:=hcs
  exact ⟨none,[],0,rfl,by simp,by simp,Rd.nil⟩
 ·simp [Value.cells] at hcs
  obtain ⟨rfl,rfl,rfl⟩:=hcs
  have hlm:n0≤m:=by rw [hmm];split<;>omega
  have hex:∀ i,i<n0→∃ x:α,W.cell? (a.add i)=some (f x):=fun i him=>by
   obtain ⟨cs',hc,ht'⟩:=hi i (by omega)
   obtain ⟨x,rfl⟩:=hf n cs' _ ht';rw [hC,Nat.mul_one] at hc;obtain ⟨_,_,hat⟩:=World.cells?_some hc
   have h0:=hat 0 (by omega)
   exact ⟨x,by simpa [Addr.add] using h0⟩
  obtain ⟨l,rfl,hc⟩:=zwi n0 (fun i x=>W.cell? (a.add i)=some (f x)) hex
  refine ⟨some a,l,c0,rfl,hl,hm,fun j u hu=>?_⟩
  rw [List.getElem?_map] at hu;obtain ⟨x,hx,rfl⟩:=Option.map_eq_some_iff.1 hu
  have:=hc j x hx
  exact ⟨a,rfl,by have h1:=World.block_lt_of_cell? _ _ this;rwa [znt] at h1,this⟩
theorem zm1 {t e:TypeId} {r:Reach} {b0:Nat} {v:Value} {d:DataW H} {p:List MemPlace} (ht:P.underlying t=some (.slice e)) (he:P.underlying e=some (.int .i64)) (hC:P.cellsOf e=1) (hv:Value.okWide P W r b0 t v) (h:DataW.Trod enc P W 0 spare held t v d p) :
 ∃ (A:Option Addr) (l:List Int) (c:Nat),v=.slice A l.length c∧l.length≤c∧c≤maxLen∧Rd W W.heap.size A (l.map (Value.int .i64)) :=
 zv6 (Value.int .i64) ht hC (fun n cs x hx=>by obtain ⟨b,rfl,_⟩:=DataW.trod_int he hx;exact ⟨b,rfl⟩) h (okWide_slice ht hv)
end
theorem Tryz.own:ownKnob Tryz.prog.godebug=none:=by kernel_rfl
theorem Tryz.laidOut:laidOutB Tryz.prog=true:=by kernel_rfl
end Go.Proofs.YtpigpajgjdcagaaGreat
namespace Go.Proofs.YtpigpajgjdcagaaGreat
open Go.ChangeShapes Go.WideShapes Go.ChangeAt Go.RowKit Go.Joins Eng
set_option maxRecDepth 10000
theorem qc5 (l:List Int) {A:Option Addr} {c:Nat} {W:World} (hl:l.length≤c) (hA:(A=none∧l.length=0∧c=0)∨∃ a,A=some a∧a.spot=none)
 (hR:∀ j u,(l.map iv)[j]?=some u→∃ ad,A=some ad∧ad.block<W.heap.size∧W.cell? (ad.add j)=some u) :
 ∃ p:Nat × Nat,Value.slice A l.length c=rslV p l.length∧(∀ ρ,BlkAt ρ W p (.rs l.length (l.map iv)))∧(l≠[]→p.1<W.heap.size):=by
 have one:∀ u∈l.map iv,u.oneCell'=true:=fun u hu=>by
  obtain ⟨x,_,rfl⟩:=List.mem_map.1 hu;rfl
 rcases hA with ⟨rfl,h0,rfl⟩|⟨a,rfl,ha⟩
 ·refine ⟨(0,0),by rw [h0];rfl,fun ρ=>⟨.inr ⟨h0,rfl⟩,fun j v hj=>?_,one⟩,fun h=>absurd (List.length_eq_zero_iff.1 h0) h⟩
  have:=(List.getElem?_eq_some_iff.1 hj).1
  simp at this;omega
 ·obtain ⟨m,hm⟩:=zlg a.off c
  obtain ⟨b,o,s⟩:=a;obtain rfl:s=none:=ha
  have hoff:off (b,m+1)=o:=by simp [off,hm]
  have hroom:room (b,m+1)=c:=by simp [room,hm]
  refine ⟨(b,m+1),?_,fun ρ=>⟨.inl (by rw [hroom];exact hl),fun j v hj=>?_,one⟩,fun h=>?_⟩
  ·rw [zc3 (by simp),hoff,hroom]
  ·obtain ⟨ad,h1,_,h3⟩:=hR j v hj
   obtain rfl:=Option.some.inj h1;rw [hoff]
   cases j with
   | zero=>exact h3
   | succ j=>exact h3
  ·cases l with
   | nil=>exact absurd rfl h
   | cons x l =>
     obtain ⟨ad,h1,h2,_⟩:=hR 0 (iv x) rfl;obtain rfl:=Option.some.inj h1;exact h2
theorem qbt {W:World} {p q:Nat × Nat} {n m:Nat} {l r:List Value} (h:∀ ρ,BlkAt ρ W p (.rs n l)) (hb:l≠[]→p.1<W.heap.size) (h':∀ ρ,BlkAt ρ W q (.rs m r)) (hb':r≠[]→q.1<W.heap.size) :
 Sat W [] (fun k=>if k=0 then p else q) [.rs n l,.rs m r] W:=by
 have two:∀ (k:Nat) (b:MB),[MB.rs n l,MB.rs m r][k]?=some b→(k=0∧b=.rs n l)∨(k=1∧b=.rs m r):=fun k b hk=>by
  match k,hk with
  | 0,hk=>exact .inl ⟨rfl,by simpa using hk.symm⟩
  | 1,hk=>exact .inr ⟨rfl,by simpa using hk.symm⟩
  | k+2,hk=>simp at hk
 refine ⟨Gr.refl _ _,fun k b hk=>?_,fun b hb2=>?_,fun k b hk=>?_,fun k j b c hk hj hne i hi=>?_⟩
 ·rcases two k b hk with ⟨rfl,rfl⟩|⟨rfl,rfl⟩
  ·exact h _
  ·exact h' _
 ·simp only [List.mem_cons,List.not_mem_nil,or_false] at hb2
  rcases hb2 with rfl|rfl<;>trivial
 ·rcases two k b hk with ⟨rfl,rfl⟩|⟨rfl,rfl⟩
  ·refine ⟨fun i hi=>(by cases hi.1),fun i hi=>?_⟩
   obtain ⟨h1,rfl⟩:=hi
   exact hb (fun he=>by subst he;cases h1)
  ·refine ⟨fun i hi=>(by cases hi.1),fun i hi=>?_⟩
   obtain ⟨h1,rfl⟩:=hi
   exact hb' (fun he=>by subst he;cases h1)
 ·rcases two k b hk with ⟨rfl,rfl⟩|⟨rfl,rfl⟩<;>cases hi.1
theorem law2 {P:Program} {f:FuncId} {l r:List Int} (ht:TriP P f [.one (.rsl 0 l.length),.one (.rsl 1 r.length)] [.rs l.length (l.map iv),.rs r.length (r.map iv)] (vB true)) {W:World} {p q:Nat × Nat} (h:∀ ρ,BlkAt ρ W p (.rs l.length (l.map iv))) (hb:l≠[]→p.1<W.heap.size) (h':∀ ρ,BlkAt ρ W q (.rs r.length (r.map iv))) (hb':r≠[]→q.1<W.heap.size) :
 Calls P f #[rslV p l.length,rslV q r.length] W fun e W'=>e=.returned (.bool true)∧Below W.heap.size W W':=by
 refine (ht.2 W [] (fun k=>if k=0 then p else q) W (qbt h (fun he=>hb (fun h0=>he (by rw [h0];rfl))) h' (fun he=>hb' (fun h0=>he (by rw [h0];rfl)))) (fun v hv=>?_)).mono ?_
 ·simp only [List.mem_cons,List.not_mem_nil,or_false] at hv
  rcases hv with rfl|rfl
  ·exact Nat.zero_lt_two
  ·exact Nat.one_lt_two
 ·rintro e W' ⟨v,m,ρ',rfl,⟨rfl,rfl⟩,_,_,_,H⟩
  exact ⟨rfl,qdk H.gr⟩
section
variable {P:Program} {W:World} {H:Type} {enc:TypeId × Value→H} {spare:Nat→Bool} {held:Bool}
theorem qay {e:TypeId} {t:TypeId} {r:Reach} {b0:Nat} {A:Option Addr} {n c:Nat} (ht:P.underlying t=some (.slice e)) (hv:Value.okWide P W r b0 t (.slice A n c)):(A=none∧n=0∧c=0)∨∃ a,A=some a∧a.spot=none:=by
 simp only [Value.okWide,ht,Cell.okWide] at hv
 cases A with
 | none =>
   unfold Cell.ok at hv;rw [ht] at hv
   split at hv<;>simp_all
 | some a =>
   refine .inr ⟨a,rfl,?_⟩;unfold Cell.ok at hv;rw [ht] at hv;exact hv.2.2.2.1
end
end Go.Proofs.YtpigpajgjdcagaaGreat
namespace Go.Proofs.YtpigpajgjdcagaaGreat
open Go.ChangeShapes Go.WideShapes Go.ChangeAt Go.RowKit
theorem qce:laidOutB Tryz.prog=true:=by kernel_rfl
theorem qcd:mapsRowed Tryz.prog=true:=by kernel_rfl
theorem zzr:Tryz.prog.stopsHeard=true:=by kernel_rfl
theorem zzs:Tryz.prog.mayEnter=true:=by kernel_rfl
end Go.Proofs.YtpigpajgjdcagaaGreat
