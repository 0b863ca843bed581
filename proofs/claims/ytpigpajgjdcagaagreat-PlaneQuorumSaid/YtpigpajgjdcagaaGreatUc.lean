/- Parts. -/
import Derived.Test.YtpigpajgjdcagaaGreatUb
import Derived.Laws.Tables
import Derived.Great.BuildSlice
set_option linter.unusedSimpArgs false
set_option linter.unusedVariables false
set_option maxRecDepth 100000
set_option maxHeartbeats 60000000
namespace Go.Proofs.YtpigpajgjdcagaaGreat
open Go.RowKit
namespace Eng
section
variable {P:Program} {T:List (TypeId × TI)} {ρ:Nat→Nat × Nat} {tm:PT} {n:Nat} {a:Act}
theorem zox:∀ (k:Nat) (l:List S1),repN k l=(List.replicate k l).flatten
 | 0,l=>by simp [repN]
 | k+1,l=>by simp [repN,zox k l,List.replicate_succ]
theorem zic (l:List Value) (hl:0<l.length):∀ k:Nat,(List.range (k * l.length)).map (fun i=>l.toArray[i % l.toArray.size]!)=(List.replicate k l).flatten
 | 0=>by simp
 | k + 1 => by
   have h1:(List.range l.length).map (fun i=>l.toArray[i % l.toArray.size]!)=l:=by
    refine List.ext_getElem (by simp) fun i h1 h2=>?_
    have:i % l.length=i:=Nat.mod_eq_of_lt h2
    simp [this,h2]
   have h2:(List.range (k * l.length)).map (fun i=>l.toArray[(l.length+i) % l.toArray.size]!)=(List.range (k * l.length)).map (fun i=>l.toArray[i % l.toArray.size]!):=by
    refine List.map_congr_left fun i _=>?_
    simp
   rw [show (k+1) * l.length=l.length+k * l.length by rw [Nat.succ_mul];omega,List.range_add,List.map_append,h1,List.map_map]
   show l++(List.range (k * l.length)).map (fun i=>l.toArray[(l.length+i) % l.toArray.size]!)=_
   rw [h2,zic l hl k,List.replicate_succ,List.flatten_cons]
theorem za8:∀ {l:List Value},valsB l=true→∀ u∈l,u.oneCell'=true
 | [],_,u,hu=>by cases hu
 | v :: l, h, u, hu => by
   have hv:v.oneCell'=true∧valsB l=true:=by cases v<;>first|exact ⟨rfl,h⟩|(simp [valsB] at h)
   rcases List.mem_cons.1 hu with rfl|hu
   ·exact hv.1
   ·exact za8 hv.2 u hu
theorem Sat.kill {w0:World} {own:List Nat} {mem:List MB} {w:World} (H:Sat w0 own ρ mem w) (h:Nat):Sat w0 own ρ (mem.set h .dead) w:=by
 refine H.move (fun _=>False) (fun k=>k=h) id (fun _=>False) (fun i h=>h.elim) (Gr.refl _ _) (fun _ _ _ _ e=>e) (fun c hc=>?_) (fun k c hc hn=>⟨fun h=>h,c,by rw [List.getElem?_set_ne (Ne.symm hn)] at hc;exact hc,fun _ h=>h,fun _ h=>h,fun h=>h⟩) (fun k c hc hn=>?_) (fun k j c d hk hj _ _ hne=>absurd (hk.trans hj.symm) hne)
 ·rw [List.length_set]
  rcases List.mem_or_eq_of_mem_set hc with h1|rfl
  ·exact H.ok c h1
  ·trivial
 ·subst hn
  have hlt:k<mem.length:=by have:=(List.getElem?_eq_some_iff.1 hc).1;simpa using this
  rw [List.getElem?_set_self hlt] at hc;obtain rfl:=Option.some.inj hc
  exact ⟨trivial,fun i hi=>(by cases hi.1),fun i hi=>(by cases hi.1)⟩
def ext2 (ρ:Nat→Nat × Nat) (n:Nat) (p:Nat × Nat):Nat→Nat × Nat:=fun h=>if h=n then p else ρ h
theorem zba {n h:Nat} {p:Nat × Nat} (hh:h<n):ρ h=ext2 ρ n p h:=by simp [ext2,Nat.ne_of_lt hh]
theorem zay (n:Nat) (p:Nat × Nat):ext2 ρ n p n=p:=by simp [ext2]
theorem Sat.addGrow {w0:World} {own:List Nat} {mem:List MB} {w w':World} (H:Sat w0 own ρ mem w) {row:Option Nat} (hg:w.grownBy w' row) (hrow:∀ g,row=some g→(g∈own∨w0.heap.size≤g)∧∀ (k:Nat) (b:MB),mem[k]?=some b→¬ b.wf (ρ k) g∧¬ b.rf (ρ k) g)
 {e:TypeId} {z k:Nat} {v':Value} {l:List Value} (how:w'.ownsRow 0 e z v' k l) (hone:∀ u∈l,u.oneCell'=true) (hv:v'.ownBlock=row∨v'.ownBlock=some w.heap.size) {ρ':Nat→Nat × Nat} (hρ:∀ h,h<mem.length→ρ h=ρ' h) (hn:gslV (ρ' mem.length) k=v') :
 Sat w0 own ρ' (mem++[.grow e z k l]) w':=by
 refine H.snoc (fun i=>row=some i∨w.heap.size≤i) (fun i hi=>?_) ⟨hg.os,hg.tape,hg.output,hg.size,fun i hi hn=>hg.block i hi fun e=>hn (.inl e.symm)⟩ trivial hρ ⟨hn.symm ▸ how,hone⟩ (fun i hi=>?_) (fun i hi=>by cases hi.1)
 ·rcases hi with hi|hi
  ·exact ⟨fun _=>(hrow i hi).1,(hrow i hi).2⟩
  ·exact ⟨fun h=>by omega,fun k b hb=>⟨fun h=>by have:=H.low hb (.inl h);omega,fun h=>by have:=H.low hb (.inr h);omega⟩⟩
 ·obtain ⟨hw,rfl⟩:=hi
  obtain ⟨c,_,h2,_⟩:=qaz (hn.symm ▸ how) hw
  have h1:v'.ownBlock=some (ρ' mem.length).1:=by rw [←hn,h2];rfl
  rcases hv with h3|h3
  ·exact .inl (h3.symm.trans h1)
  ·exact .inr (Nat.le_of_eq (Option.some.inj (h3.symm.trans h1)))
theorem Sat.addRs {w0:World} {own:List Nat} {mem:List MB} {w:World} (H:Sat w0 own ρ mem w) {h:Nat} {b0:MB} (hb:mem[h]?=some b0) {ρ':Nat→Nat × Nat} (hρ:∀ h,h<mem.length→ρ h=ρ' h) {n:Nat} {l:List Value} (hat:BlkAt ρ' w (ρ' mem.length) (.rs n l)) (hrf:∀ i,MB.rf (ρ' mem.length) i (.rs n l)→b0.rf (ρ h) i):Sat w0 own ρ' (mem++[.rs n l]) w:=by
 refine H.snoc (fun _=>False) (fun i hi=>hi.elim) (Gr.refl _ _) trivial hρ hat (fun i hi=>by cases hi.1) (fun i hi=>⟨(H.fre h b0 hb).2 i (hrf i hi),fun k b hk hw=>?_⟩)
 by_cases e:k=h
 ·subst e
  obtain rfl:=Option.some.inj (hk.symm.trans hb);exact MB.wfr hw (hrf i hi)
 ·exact (H.apt k h b b0 hk hb e i hw).2 (hrf i hi)
theorem zzd {t e:TypeId} {i:TypeInfo} {z:Value} (hu:P.underlying t=some (.slice e)) (hi:P.info? e=some i) (hz:i.zero=some z) (hzs:z.cells.size=i.size) (hpos:0<i.size) (hby:i.bytes≤1000000) (w:World) (ty:TypeId) (v:Value) (n:Nat) (xs:List Value) (hown:w.ownsRow 0 e i.size v n xs)
 (B:Nat) (A:Option Addr) (m c:Nat) (news:List Value) (hl:news.length=m * i.size) (hr:Rd w B A news) (h1:∀ u∈news,u.oneCell'=true) (hn:n+m≤1000000) :
 ∃ v' w', (Builtin.append_ #[t, t] ty #[v, .slice A m c]).run P w = .ok v' w' ∧ w'.ownsRow 0 e i.size v' (n + m) (xs ++ news) ∧ w.grownBy w' v.ownBlock ∧
   (v'.ownBlock=v.ownBlock∨v'.ownBlock=some w.heap.size):=by
 rcases A with _|ad
 ·have hn0:news=[]:=by
   cases news with
   | nil=>rfl
   | cons u r=>obtain ⟨ad,h,_⟩:=hr 0 u rfl;cases h
  subst hn0
  have hm:m=0:=by
   rcases Nat.eq_zero_or_pos m with h0|h0
   ·exact h0
   ·have:=Nat.mul_pos h0 hpos;simp at hl;omega
  subst hm
  refine ⟨v,w,?_,by simpa using hown,World.grownBy.refl w _,.inl rfl⟩
  rcases hown.2 with ⟨rfl,rfl⟩|⟨g,cap,cur,rfl,_,_,hnc,_⟩
  ·simp [Builtin.append_,run_underlying hu,sizeOf,typeInfo,hi,Builtin.lenOf,Builtin.firstCells]
  ·simp [Builtin.append_,run_underlying hu,sizeOf,typeInfo,hi,Builtin.lenOf,Builtin.firstCells,hnc,storeCells]
 ·have hcells:∀ j u,news[j]?=some u→w.cell? (ad.add j)=some u:=by
   intro j u hu;obtain ⟨ad',h,_,hc⟩:=hr j u hu
   injection h with h
   subst h;exact hc
  obtain ⟨v',w',hrun,h2,h3,_,h5⟩:=run_append_own_at (P:=P) w 0 t ty e i z i.size i.bytes hu hi hz rfl rfl hzs hpos v n xs hown ad m c news hl hcells h1 (by simp only [maxLen];omega)
   (Nat.le_trans (Nat.mul_le_mul hn hby) (by omega)) (Nat.zero_le _)
  exact ⟨v',w',hrun,h2,h3,h5⟩
theorem qc7 {w0:World} {own:List Nat} {mem:List MB} {w:World} (H:Sat w0 own ρ mem w) {e:TypeId} {z:Nat} {v:SV} {hs:Option Nat} {k:Nat} {l:List Value} (h:rowE std mem e z v=some (hs,k,l)) :
 w.ownsRow 0 e z (concV ρ v) k l∧(∀ u∈l,u.oneCell'=true)∧(∀ g,(concV ρ v).ownBlock=some g→∃ h b,hs=some h∧mem[h]?=some b∧b.wr (ρ h)=true∧(ρ h).1=g):=by
 unfold rowE at h
 split at h
 ·cases h
  exact ⟨World.ownsRow_nil _ _ _ _,by simp,fun g hg=>by simp [concV,conc1,Value.ownBlock] at hg⟩
 ·rename_i hh n
  rw [zak] at h
  split at h
  ·rename_i t z' m l' hb
   replace h:=zai h;obtain ⟨hc,h⟩:=h
   cases h
   simp only [Bool.and_eq_true] at hc;obtain ⟨⟨h1,h2⟩,h3⟩:=hc;obtain rfl:=Nat.eq_of_beq_eq_true h1;obtain rfl:=Nat.eq_of_beq_eq_true h2
   obtain rfl:m=k:=by simpa [std] using h3
   obtain ⟨ho,h1'⟩:=H.blk _ _ hb
   refine ⟨ho,h1',fun g hg=>⟨_,_,rfl,hb,?_⟩⟩
   simp only [concV,conc1] at hg
   revert hg
   unfold gslV
   split
   ·intro hg;simp [Value.ownBlock] at hg
   ·rename_i c hp
    intro hg;simp only [Value.ownBlock,Option.some.injEq] at hg
    exact ⟨by simp [MB.wr,hp],hg⟩
  ·cases h
 ·rename_i hh n c
  rw [zak] at h
  split at h
  ·rename_i t l' hb
   replace h:=zai h;obtain ⟨hc,h⟩:=h;simp only [Bool.and_eq_true] at hc;obtain ⟨⟨⟨h1,h2⟩,h3⟩,h4⟩:=hc;obtain rfl:=Nat.eq_of_beq_eq_true h1;obtain rfl:=Nat.eq_of_beq_eq_true h2
   have h3:=Nat.eq_of_beq_eq_true h3
   rw [zaq] at h3
   have h4:=Nat.le_of_ble_eq_true h4
   split at h
   ·rename_i r hr
    replace h:=zai h;obtain ⟨hv,h⟩:=h
    cases h
    have hu:=zbr _ _ hr
    obtain ⟨hp,hg⟩:=H.blk _ _ hb
    have hlen:l.length=k * z:=by rw [←h3,hu];simp
    refine ⟨⟨hlen,.inr ⟨(ρ hh).1,k,_,?_,Nat.zero_le _,hg,Nat.le_refl _,by simp only [maxLen];omega,by simp [h3],?_⟩⟩,za8 hv,fun g hgg=>⟨_,_,rfl,hb,rfl,?_⟩⟩
    ·simp [concV,conc1,hp]
    ·rw [←hlen,hu]
     simp [Function.comp_def,conc1]
    ·simpa [concV,conc1,Value.ownBlock] using hgg
   ·cases h
  ·cases h
 ·cases h
theorem qc4 {w0:World} {own:List Nat} {mem:List MB} {w:World} (H:Sat w0 own ρ mem w) {z:Nat} {v:SV} {k:Nat} {l:List Value} (h:srcE std mem z v=some (k,l)) :
 ∃ B A c,concV ρ v=.slice A k c∧l.length=k * z∧Rd w B A l∧∀ u∈l,u.oneCell'=true:=by
 have rd:∀ (p:Nat × Nat) (b:Nat) (l:List Value),(∀ (j:Nat) u,l[j]?=some u→w.cell? ⟨p.1,p.2+b+j,none⟩=some u)→Rd w (p.1+1) (some ⟨p.1,p.2+b,none⟩) l:=fun p b l hc j u hu=>by
  refine ⟨_,rfl,Nat.lt_succ_self _,?_⟩;rw [Addr.add_mid];exact hc j u hu
 unfold srcE at h
 split at h
 ·cases h
  exact ⟨0,none,0,rfl,by simp,Rd.nil,by simp⟩
 ·rename_i hh n
  rw [zak] at h
  split at h
  ·rename_i t z' m l' hb
   replace h:=zai h;obtain ⟨hc,h⟩:=h
   cases h
   simp only [Bool.and_eq_true] at hc;obtain ⟨h2,h3⟩:=hc;obtain rfl:=Nat.eq_of_beq_eq_true h2
   obtain rfl:m=k:=by simpa [std] using h3
   obtain ⟨ho,h1'⟩:=H.blk _ _ hb;simp only [concV,conc1]
   revert ho
   generalize ρ hh=p
   intro ho;obtain ⟨g,q⟩:=p
   cases q with
   | zero=>exact ⟨0,none,0,rfl,ho.1,fun j u hu=>by
    rcases ho.2 with ⟨_,h0⟩|⟨g',cap,cur,e,_⟩
    ·have:=ho.1
     subst h0
     have:=(List.getElem?_eq_some_iff.1 hu).1
     omega
    ·simp [gslV] at e,h1'⟩
   | succ c=>exact ⟨g+1,some ⟨g,0,none⟩,c,rfl,ho.1,fun j u hu=>⟨_,rfl,Nat.lt_succ_self _,ho.cells (g:=g) rfl j u hu⟩,h1'⟩
  ·cases h
 ·rename_i hh b n c
  rw [zak] at h
  split at h
  ·rename_i t l' hb
   split at h
   ·rename_i r hr
    split at h
    ·rename_i r' hr'
     replace h:=zai h;obtain ⟨hv,h⟩:=h
     cases h
     obtain ⟨h1,h2⟩:=zei _ _ _ hr;rw [zf7] at h1
     have hu:=zbr _ _ hr'
     have hat:=zih (H.blk _ _ hb)
     refine ⟨_,_,c,rfl,by rw [←h2,hu];simp,rd _ b l fun j u hj=>?_,za8 hv⟩
     have:r[j]?=some (.val u):=by rw [hu];simp [hj]
     rw [h1,List.getElem?_take] at this
     split at this
     ·rw [List.getElem?_drop] at this
      have:=hat _ _ this
      rw [Nat.add_assoc];exact this
     ·cases this
    ·cases h
   ·cases h
  ·rename_i l' hb
   split at h
   ·rename_i r hr
    split at h
    ·rename_i r' hr'
     replace h:=zai h;obtain ⟨hv,h⟩:=h
     cases h
     obtain ⟨h1,h2⟩:=zei _ _ _ hr;rw [zf7] at h1
     have hu:=zbr _ _ hr'
     have hat:=H.blk _ _ hb
     refine ⟨_,_,c,rfl,by rw [←h2,hu];simp,rd _ b l fun j u hj=>?_,za8 hv⟩
     have:r[j]?=some (.val u):=by rw [hu];simp [hj]
     rw [h1,List.getElem?_take] at this
     split at this
     ·rw [List.getElem?_drop] at this
      have:=hat _ _ this
      rw [Nat.add_assoc];exact this
     ·cases this
    ·cases h
   ·cases h
  ·rename_i t l' hb
   split at h
   ·rename_i r hr
    cases h
    simp only [std] at hr
    split at hr
    ·rename_i hc
     cases hr
     have hat:=zh7 (H.blk _ _ hb)
     refine ⟨_,_,c,rfl,by simp;omega,rd _ b _ fun j u hj=>?_,fun u hu=>by simpa using List.all_eq_true.1 hc.2 u hu⟩
     rw [List.getElem?_take] at hj
     split at hj
     ·rw [List.getElem?_drop] at hj
      have:=hat _ _ hj
      rw [Nat.add_assoc];exact this
     ·cases hj
    ·cases hr
   ·cases h
  ·rename_i l' hb
   split at h
   ·rename_i r hr
    cases h
    simp only [std] at hr
    split at hr
    ·rename_i hc
     cases hr
     have hat:=zgo (H.blk _ _ hb)
     refine ⟨_,_,c,rfl,by simp;omega,rd _ b _ fun j u hj=>?_,fun u hu=>by simpa using List.all_eq_true.1 hc.2 u hu⟩
     rw [List.getElem?_take] at hj
     split at hj
     ·rw [List.getElem?_drop] at hj
      have:=hat _ _ hj
      rw [Nat.add_assoc];exact this
     ·cases hj
    ·cases hr
   ·cases h
  ·rename_i t l' hb
   split at h
   ·rename_i r hr
    cases h
    simp only [std] at hr
    split at hr
    ·rename_i hc
     cases hr
     have hat:=zwa (H.blk _ _ hb)
     refine ⟨_,_,c,rfl,by simp;omega,rd _ b _ fun j u hj=>?_,fun u hu=>by simpa using List.all_eq_true.1 hc.2 u hu⟩
     rw [List.getElem?_take] at hj
     split at hj
     ·rw [List.getElem?_drop] at hj
      have:=hat _ _ hj
      rw [Nat.add_assoc];exact this
     ·cases hj
    ·cases hr
   ·cases h
  ·cases h
 ·rename_i hh n
  rw [zak] at h
  split at h
  ·rename_i m l' hb
   replace h:=zai h;obtain ⟨hcap,h⟩:=h
   split at h
   ·rename_i r hr
    cases h
    simp only [std] at hr hcap
    split at hr
    ·rename_i hc
     cases hr
     obtain ⟨A,c,e⟩:=zkw (ρ hh) k
     refine ⟨(ρ hh).1+1,A,c,e,by simp;omega,fun j u hj=>?_,fun u hu=>by simpa using List.all_eq_true.1 hc.2 u hu⟩
     rw [List.getElem?_take] at hj
     split at hj
     ·rename_i hjk
      rw [List.drop_zero] at hj
      have hn0:k≠0:=by rintro rfl;omega
      have hcap:k≤m:=by simpa using hcap
      have hnz:(ρ hh).2≠0:=fun e=>by
       have:=(H.blk _ _ hb).1
       rw [zd1 e] at this;omega
      rw [zc3 hnz] at e
      cases e
      refine ⟨_,rfl,Nat.lt_succ_self _,?_⟩;rw [Addr.add_mid];exact (H.blk _ _ hb).2.1 j u hj
     ·cases hj
    ·cases hr
   ·cases h
  ·cases h
 ·cases h
theorem qa0 {w:World} {e:TypeId} {z k:Nat} {v:Value} {l:List Value} (h:w.ownsRow 0 e z v k l):∃ p,gslV p k=v:=by
 rcases h.2 with ⟨h1,h2⟩|⟨g,cap,cur,h1,_⟩
 ·exact ⟨(0,0),by rw [h1,h2];rfl⟩
 ·exact ⟨(g,cap+1),by rw [h1];rfl⟩
def EffOk (P:Program) (w0:World) (own:List Nat) (o:Oper) (ρ:Nat→Nat × Nat) (a:Act) (n0:Nat) (W:List Nat) (mem mem':List MB) (v:SV) (w:World):Prop :=
 ∃ ρ' w' x,(execOp a.eval o).run P w=.ok x w'∧((x=.value (concV ρ' v))∨(x=.skip∧concV ρ' v=undef))∧(∀ h,h<mem.length→ρ h=ρ' h)∧Sat w0 own ρ' mem' w'∧v.ok mem'.length∧mem.length≤mem'.length∧(∀ h,h<n0→inL W h=false→mem'[h]?=mem[h]?)
theorem zqk (hT:TabOk P T) {w0:World} {own:List Nat} {mem mem':List MB} {w:World} (H:Sat w0 own ρ mem w) (ha:Rel ρ tm a) (htm:TmOk mem.length tm) {n0:Nat} (hn0:n0≤mem.length) {W:List Nat} {v:SV} {o:Oper} (hq:effE std T n0 W o.op tm mem=some (v,mem')) :
 EffOk P w0 own o ρ a n0 W mem mem' v w:=by
 unfold EffOk execOp
 cases hop:o.op<;>rw [hop] at hq<;>simp only [effE] at hq
 all_goals try (cases hq;done)
 case alloc t =>
  split at hq
  ·rename_i ti ht
   cases hq
   obtain ⟨i,d,z,hi,hd,hz,hsz,hag,hzc,_⟩:=za1 hT ht
   refine ⟨ext ρ mem.length w.heap.size,w.alloc (.cells z.cells t),.value (.pointer (some ⟨w.heap.size,0,none⟩)),?_,.inl ?_,fun h hh=>zkc hh,?_,?_,by simp,fun h hh _=>by rw [List.getElem?_append_left (by omega)]⟩
   ·simp [Instr.alloc,zeroValue,typeInfo,hi,hz,newVar,newRow,newObj]
    rfl
   ·simp [concV,conc1,zaq,zkd]
   ·have:=H.new (t:=t) (l:=vals ti.zero) (fun x hx=>by rw [zbg,List.mem_map] at hx;obtain ⟨_,_,rfl⟩:=hx;trivial) (ρ':=ext ρ mem.length w.heap.size) (fun h hh=>zkc hh) (zkd _ _)
    rw [zbg,List.map_map,←hzc,show (conc1 ρ ∘ S1.val)=id from rfl,List.map_id,Array.toArray_toList,hzc,←zbg] at this
    exact this
   ·show len mem<_;simp [zaq]
  ·cases hq
 case box t x =>
  split at hq
  ·rename_i u hx
   obtain ⟨h0,h2⟩:=zar ha htm hx;replace hq:=zai hq;obtain ⟨hb,hq⟩:=hq
   cases hq
   rw [Bool.and_eq_true] at hb
   have hl:1≤u.cells.length:=by have:=Nat.le_of_ble_eq_true hb.2;rwa [zaq] at this
   have hc:=zcv ρ u (zil hl) (zca hb.1)
   refine ⟨ext ρ mem.length w.heap.size,w.alloc (.cells (u.cells.map (conc1 ρ)).toArray t),.value (.pointer (some ⟨w.heap.size,0,none⟩)),?_,.inl ?_,fun h hh=>zkc hh,H.new (zhn h2) (fun h hh=>zkc hh) (zkd _ _),?_,by simp,fun h hh _=>by rw [List.getElem?_append_left (by omega)]⟩
   ·simp [Instr.box,h0,newVar,hc,newRow,newObj]
    rfl
   ·simp [concV,conc1,zaq,zkd]
   ·show len mem<_;simp [zaq]
  ·cases hq
 case buildSlice t k parts =>
  split at hq
  ·rename_i ti ht
   replace hq:=zai hq;obtain ⟨hb,hq⟩:=hq;simp only [Bool.and_eq_true] at hb;obtain ⟨⟨hb1,hb2⟩,hb3⟩:=hb
   have hb1:=Nat.le_of_ble_eq_true hb1
   have hb2:=Nat.le_of_ble_eq_true hb2
   have hb3:=Nat.eq_of_beq_eq_true hb3
   rw [zaq] at hb3
   obtain ⟨hu,_,ie,hie,hsz,_,hzz⟩:=zfv hT ht (by omega)
   obtain ⟨z,hz,hzc⟩:=hzz hb3
   split at hq
   ·rename_i cs hcs
    cases hq
    have hcz:∀ x∈repN k (vals ti.ezero),x.ok mem.length:=fun x hx=>by
     rw [zox,List.mem_flatten] at hx;obtain ⟨l,hl,hx⟩:=hx;rw [List.mem_replicate] at hl;rw [hl.2,zbg,List.mem_map] at hx;obtain ⟨_,_,rfl⟩:=hx;trivial
    obtain ⟨h3,h4⟩:=zle ha htm ti.esize parts.toList _ cs hcz hcs
    have hmap:((repN k (vals ti.ezero)).map (conc1 ρ)).toArray=(Array.range (k * ie.size)).map (z.cells[· % z.cells.size]!):=by
     have hr:=zic z.cells.toList (by rw [hzc];omega) k
     refine Array.ext' ?_;rw [Array.toList_map,Array.toList_range,hsz,←hb3,←hzc];simp only [Array.toArray_toList] at hr
     rw [hr,zox,List.map_flatten,List.map_replicate,zbg,List.map_map,show (conc1 ρ ∘ S1.val)=id from rfl,List.map_id,hzc]
    have hparts:(parts.map fun (i,x)=>(i,a.eval x)).toList=parts.toList.map fun x=>(x.1,a.eval x.2):=by simp
    refine ⟨ext ρ mem.length w.heap.size,w.alloc (.cells (cs.map (conc1 ρ)).toArray ti.etype),.value (.slice (some ⟨w.heap.size,0,none⟩) k k),?_,.inl ?_,fun h hh=>zkc hh,H.new h4 (fun h hh=>zkc hh) (zkd _ _),?_,by simp,fun h hh _=>by rw [List.getElem?_append_left (by omega)]⟩
    ·have hrun:(Instr.buildSlice t k (parts.map fun (i,x)=>(i,a.eval x))).run P w=.ok (.slice (some ⟨w.heap.size,0,none⟩) k k) (w.alloc (.cells (cs.map (conc1 ρ)).toArray ti.etype)):=by
      rw [hmap,←hparts,←hsz] at h3
      by_cases hpos:k * ie.size=0
      ·have e1:∀ f:Nat→Value,(Array.range (k * ie.size)).map f=#[]:=fun f=>by rw [hpos];exact Array.ext' (by simp)
       have hfill:Instr.fill (fun i=>some (i * ie.size,ie.size)) ((Array.range (k * ie.size)).map ((#[]:Array Value)[· % (#[]:Array Value).size]!)) (parts.map fun (i,x)=>(i,a.eval x)).toList=some (cs.map (conc1 ρ)).toArray:=by
        rw [←h3,e1,e1]
       simp [Instr.buildSlice,run_underlying hu,sizeOf,typeInfo,hie,hpos] at hfill ⊢;simp [hfill,newRow,newObj];rfl
      ·exact run_buildSlice w t ti.etype k _ _ ie z hu hie hz (by rw [hsz];omega) hpos h3
     rw [Sem.run_bind,hrun];rfl
    ·simp [concV,conc1,zaq,zkd]
    ·show len mem<_;simp [zaq]
   ·cases hq
  ·cases hq
 case call c =>
  split at hq
  ·rename_i s x t u hcal hargs hts
   have har:c.args=#[s,x]:=by rw [←Array.toArray_toList (xs:=c.args),hargs]
   have hty:c.argTypes=#[t,u]:=by rw [←Array.toArray_toList (xs:=c.argTypes),hts]
   split at hq
   ·rename_i ti vs vx ht hvs hvx
    replace hq:=zai hq;obtain ⟨hb,hq⟩:=hq;simp only [Bool.and_eq_true] at hb;obtain ⟨⟨hb1,hb2⟩,hb3⟩:=hb;obtain rfl:=Nat.eq_of_beq_eq_true hb1
    have hb2:=Nat.le_of_ble_eq_true hb2
    have hb3:=Nat.eq_of_beq_eq_true hb3
    rw [zaq] at hb3
    obtain ⟨hu,_,ie,hie,hsz,hby,hzz⟩:=zfv hT ht (by omega)
    obtain ⟨z,hz,hzc⟩:=hzz hb3;obtain ⟨e0,_⟩:=zar ha htm hvs;obtain ⟨e1,_⟩:=zar ha htm hvx
    split at hq
    ·rename_i hs k l m r hrow hsrc
     replace hq:=zai hq;obtain ⟨hfit,hq⟩:=hq;obtain ⟨ho,hone,hblk⟩:=qc7 H hrow;obtain ⟨B,A,cp,hev,hlen,hrd,hone2⟩:=qc4 H hsrc;rw [←hsz] at ho hlen
     obtain ⟨v',w',hrun,ho',hg,hvb⟩:=zzd hu hie hz (by rw [hsz,←hb3,←hzc];simp) (by omega) hby w o.type (concV ρ vs) k l ho B A m cp r hlen hrd hone2 (by simpa [std] using hfit)
     obtain ⟨p,hp⟩:=qa0 ho'
     have hexec:(do let d ←resolve a.eval c o.type;invoke d.target d.args:Sem Next).run P w=.ok (.value v') w':=by
      simp [resolve,hcal,har,hty,e0,e1,hev,invoke,builtin,hrun]
     have honeA:∀ u∈l++r,u.oneCell'=true:=fun u hu=>(List.mem_append.1 hu).elim (hone u) (hone2 u)
     have hst:std.app l r=l++r:=rfl
     have hst2:std.addn k m=k+m:=rfl
     rw [hst,hst2] at hq
     split at hq
     ·rename_i hh
      replace hq:=zai hq;obtain ⟨hge,hq⟩:=hq
      cases hq
      have hge':n0≤hh∨inL W hh=true:=by
       rw [Bool.or_eq_true] at hge
       exact hge.imp Nat.le_of_ble_eq_true fun h=>h
      have hl:(setAt mem hh .dead).length=mem.length:=by simp [zaf]
      refine ⟨ext2 ρ mem.length p,w',.value v',hexec,.inl ?_,fun h hh=>zba hh,?_,?_,by simp [zaf],fun j hj hjw=>?_⟩
      ·simp only [concV,conc1,zaq,zay,hp]
      ·rw [zaf] at hl ⊢
       have hrow':∀ g,(concV ρ vs).ownBlock=some g→(g∈own∨w0.heap.size≤g)∧∀ (k:Nat) (b:MB),(mem.set hh .dead)[k]?=some b→¬ b.wf (ρ k) g∧¬ b.rf (ρ k) g:=fun g hgg=>by
        obtain ⟨h',b,e,hb,hw,rfl⟩:=hblk g hgg;obtain rfl:hh=h':=Option.some.inj e
        refine ⟨(H.free _ _ hb).1 hw,fun k c hc=>?_⟩
        by_cases hk:k=hh
        ·subst hk
         rw [List.getElem?_set_self (List.getElem?_eq_some_iff.1 hb).1] at hc;obtain rfl:=Option.some.inj hc
         exact ⟨fun h=>(by cases h.1),fun h=>(by cases h.1)⟩
        ·rw [List.getElem?_set_ne (Ne.symm hk)] at hc
         exact H.apt hh k b c hb hc (Ne.symm hk) _ (MB.wf1 hw)
       rw [hsz] at ho'
       exact (H.kill hh).addGrow hg hrow' ho' honeA hvb (fun h hh=>zba (by omega)) (by rw [hl,zay];exact hp)
      ·show len mem<_;simp [zaq,zaf]
      ·rw [List.getElem?_append_left (by rw [hl];omega),zaf,List.getElem?_set_ne (by rintro rfl;rcases hge' with h1|h1;omega;rw [h1] at hjw;cases hjw)]
     ·cases hq
      refine ⟨ext2 ρ mem.length p,w',.value v',hexec,.inl ?_,fun h hh=>zba hh,?_,?_,by simp,fun j hj hjw=>by rw [List.getElem?_append_left (by omega)]⟩
      ·simp only [concV,conc1,zaq,zay,hp]
      ·rw [hsz] at ho'
       exact H.addGrow hg (fun g hgg=>by obtain ⟨_,_,e,_⟩:=hblk g hgg;cases e) ho' honeA hvb (fun h hh=>zba hh) (by rw [zay];exact hp)
      ·show len mem<_;simp [zaq]
    ·cases hq
   ·cases hq
  ·cases hq
 case store t x y =>
  split at hq
  ·rename_i h base off u ti hx hy ht
   obtain ⟨h0,h00⟩:=zar ha htm hx;obtain ⟨h1,h2⟩:=zar ha htm hy;obtain ⟨i,d,z,hi,hd,hz,hsz,hag,hzc,_⟩:=za1 hT ht;replace hq:=zai hq;obtain ⟨hb,hq⟩:=hq;simp only [Bool.and_eq_true] at hb;obtain ⟨⟨⟨hb1,hb2⟩,hb3⟩,hb4⟩:=hb
   have hge:n0≤h∨inL W h=true:=by
    rw [Bool.or_eq_true] at hb1
    exact hb1.imp Nat.le_of_ble_eq_true fun h=>h
   have hln:u.cells.length=ti.size:=by have:=Nat.eq_of_beq_eq_true hb2;rwa [zaq] at this
   have hl1:1≤u.cells.length:=by have:=Nat.le_of_ble_eq_true hb4;omega
   have hc:=zcv ρ u (zil hl1) (zca hb3)
   simp only [zak] at hq
   have key:∀ (tt:TypeId) (cur:Array Value),(ρ h).2=0→w.heap[(ρ h).1]?=some (.cells cur tt (0,0))→base+off+u.cells.length≤cur.size →
    (Instr.storeAt t (a.eval x) (a.eval y)).run P w=.ok () (w.setRow (ρ h).1 (cur.toList.take (base+off)++u.cells.map (conc1 ρ)++cur.toList.drop (base+off+u.cells.length)).toArray):=by
    intro tt cur hp hg hle
    have:=run_storeCells_at (P:=P) (ρ h).1 (base+off) tt (u.cells.map (conc1 ρ)) 0 cur w hg (by simpa using hle) (fun v hv=>by
     obtain ⟨x,hx,rfl⟩:=List.mem_map.1 hv;exact zca hb3 x hx)
    simp only [Nat.add_zero,List.length_map] at this;simp [Instr.storeAt,Instr.sureAddr,h0,h1,concV.eq_1,conc1,hp,storeVar,hc,sizeOf,typeInfo,hi,hsz,hln,this]
   split at hq
   ·rename_i tt l hbk
    split at hq
    ·rename_i l' hov
     cases hq
     obtain ⟨hle,hr⟩:=zd8 _ _ _ _ hov;obtain ⟨hp,hg⟩:=H.blk h _ hbk
     have hk:=key tt _ hp hg (by simpa using hle)
     refine ⟨ρ,_,.skip,by rw [Sem.run_bind,hk];rfl,.inr ⟨rfl,rfl⟩,fun _ _=>rfl,?_,trivial,by simp [zaf],fun k hk hkw=>by rw [zaf,List.getElem?_set_ne (by rintro rfl;rcases hge with h1|h1;omega;rw [h1] at hkw;cases hkw)]⟩
     rw [zaf]
     refine H.put hbk rfl rfl ?_ ⟨hp,?_⟩ rfl rfl rfl (by simp [World.setRow]) (fun i hi=>zdz w _ i _ hi) (fun o h=>by cases h)
     ·intro x hx
      rw [hr] at hx;simp only [List.mem_append] at hx
      rcases hx with (hx|hx)|hx
      ·exact H.ok _ (List.mem_of_getElem? hbk) x (List.mem_of_mem_take hx)
      ·exact zhn h2 x hx
      ·exact H.ok _ (List.mem_of_getElem? hbk) x (List.mem_of_mem_drop hx)
     ·rw [setRow_heap w _ _ _ _ _ hg,hr]
      simp [List.map_take,List.map_drop]
    ·cases hq
   ·rename_i tt l hbk
    split at hq
    ·rename_i vs hvs
     split at hq
     ·rename_i l' hov
      cases hq
      simp only [std] at hov
      split at hov
      ·rename_i hle
       cases hov
       have hu:=zbr _ _ hvs
       have hlen:u.cells.length=vs.length:=by rw [hu];simp
       obtain ⟨hp,hg⟩:=H.blk h _ hbk
       have hk:=key tt _ hp hg (by simp;omega)
       refine ⟨ρ,_,.skip,by rw [Sem.run_bind,hk];rfl,.inr ⟨rfl,rfl⟩,fun _ _=>rfl,?_,trivial,by simp [zaf],fun k hk hkw=>by rw [zaf,List.getElem?_set_ne (by rintro rfl;rcases hge with h1|h1;omega;rw [h1] at hkw;cases hkw)]⟩
       rw [zaf]
       refine H.put hbk rfl rfl trivial ⟨hp,?_⟩ rfl rfl rfl (by simp [World.setRow]) (fun i hi=>zdz w _ i _ hi) (fun o h=>by cases h)
       rw [setRow_heap w _ _ _ _ _ hg,hlen,hu];simp [Function.comp_def,conc1]
      ·cases hov
     ·cases hq
    ·cases hq
   ·cases hq
  ·rename_i h base off u ti hx hy ht
   obtain ⟨h0,h00⟩:=zar ha htm hx;obtain ⟨h1,h2⟩:=zar ha htm hy;obtain ⟨i,d,z,hi,hd,hz,hsz,hag,hzc,_⟩:=za1 hT ht;replace hq:=zai hq;obtain ⟨hb,hq⟩:=hq;simp only [Bool.and_eq_true] at hb;obtain ⟨⟨⟨hb1,hb2⟩,hb3⟩,hb4⟩:=hb
   have hge:n0≤h∨inL W h=true:=by
    rw [Bool.or_eq_true] at hb1
    exact hb1.imp Nat.le_of_ble_eq_true fun h=>h
   have hln:u.cells.length=ti.size:=by have:=Nat.eq_of_beq_eq_true hb2;rwa [zaq] at this
   have hl1:1≤u.cells.length:=by have:=Nat.le_of_ble_eq_true hb4;omega
   have hc:=zcv ρ u (zil hl1) (zca hb3)
   simp only [zak] at hq
   split at hq
   ·rename_i tt zz m l hbk
    split at hq
    ·rename_i vs hvs
     replace hq:=zai hq;obtain ⟨hvb,hq⟩:=hq
     split at hq
     ·rename_i l' hov
      cases hq
      simp only [std] at hov
      split at hov
      ·rename_i hle
       cases hov
       have hu:=zbr _ _ hvs
       have hlen:u.cells.length=vs.length:=by rw [hu];simp
       have hcv:(concV ρ u).cells=vs.toArray:=by rw [hc,hu];simp [Function.comp_def,conc1]
       obtain ⟨ho,hone⟩:=H.blk h _ hbk;obtain ⟨hl0,ho⟩:=ho
       rcases ho with ⟨_,hm0⟩|⟨g,cap,cur,hv,_,hcur,hnc,hcm,hcs,htk⟩
       ·subst hm0;omega
       have hp:gslV (ρ h) m=.slice (some ⟨(ρ h).1,0,none⟩) m cap∧g=(ρ h).1∧MB.wr (ρ h) (.grow tt zz m l)=true:=by
        revert hv
        generalize ρ h=p
        obtain ⟨p1,p2⟩:=p
        cases p2 with
        | zero=>intro hv;simp [gslV] at hv
        | succ q =>
          intro hv;simp only [gslV,Value.slice.injEq,Option.some.injEq,Addr.mk.injEq] at hv;obtain ⟨⟨rfl,_⟩,_,rfl⟩:=hv;exact ⟨rfl,rfl,rfl⟩
       obtain ⟨hp1,rfl,hwr⟩:=hp
       have hlc:l.length≤cur.size:=by
        have:=congrArg List.length htk
        simp at this;omega
       have hst:(Instr.storeAt t (a.eval x) (a.eval y)).run P w=.ok () (w.setRow (ρ h).1 (cur.toList.take (base+off)++vs++cur.toList.drop (base+off+vs.length)).toArray):=by
        have:=run_storeCells_at (P:=P) (ρ h).1 (base+off) tt vs 0 cur w hcur (by omega) (za8 hvb)
        simp only [Nat.add_zero] at this;simp [Instr.storeAt,Instr.sureAddr,h0,h1,concV.eq_1,conc1,storeVar,hcv,sizeOf,typeInfo,hi,hsz,←hln,hlen,this]
       refine ⟨ρ,_,.skip,by rw [Sem.run_bind,hst];rfl,.inr ⟨rfl,rfl⟩,fun _ _=>rfl,?_,trivial,by simp [zaf],fun k hk hkw=>by rw [zaf,List.getElem?_set_ne (by rintro rfl;rcases hge with h1|h1;omega;rw [h1] at hkw;cases hkw)]⟩
       rw [zaf]
       refine H.put hbk hwr rfl trivial ⟨⟨by simp;omega,.inr ⟨(ρ h).1,cap,_,hp1,Nat.zero_le _,setRow_heap w _ _ _ _ _ hcur,hnc,hcm,?_,?_⟩⟩,fun v hv=>?_⟩ rfl rfl rfl (by simp [World.setRow]) (fun i hi=>zdz w _ i _ hi) (fun o h=>by cases h)
       ·simp;omega
       ·obtain ⟨r,hr⟩:∃ r,cur.toList=l++r:=⟨cur.toList.drop (m * zz),by rw [←htk,List.take_append_drop]⟩
        rw [List.toList_toArray,hr,←hl0,List.take_append_of_le_length (l₂:=r) (show base+off≤l.length by omega),List.drop_append_of_le_length (l₂:=r) (show base+off+vs.length≤l.length by omega),←List.append_assoc]
        exact List.take_left' (by simp;omega)
       ·simp only [List.mem_append] at hv
        rcases hv with (hv|hv)|hv
        ·exact hone v (List.mem_of_mem_take hv)
        ·exact za8 hvb v hv
        ·exact hone v (List.mem_of_mem_drop hv)
      ·cases hov
     ·cases hq
    ·cases hq
   ·cases hq
  ·cases hq
 case slice t x lo hi mx =>
  split at hq
  ·rename_i h n' ti hx ht
   split at hq
   ·rename_i u e z m l hu hm
    rw [zak] at hm;obtain ⟨h0,_⟩:=zar ha htm hx;replace hq:=zai hq;obtain ⟨hb,hq⟩:=hq
    cases hq
    simp only [Bool.and_eq_true] at hb;obtain ⟨⟨⟨⟨hb1,hb2⟩,hb3⟩,hb4⟩,hb5⟩:=hb
    have hge:n0≤h∨inL W h=true:=by
     rw [Bool.or_eq_true] at hb1
     exact hb1.imp Nat.le_of_ble_eq_true fun h=>h
    obtain ⟨hund,i',hi',hsz'⟩:=zdr hT ht hb2;obtain rfl:=Nat.eq_of_beq_eq_true hb3
    have hin:0≤u∧u≤n':=by simpa [std] using hb4
    obtain rfl:m=n':=by simpa [std] using hb5
    have hhi:=zg9 ha htm hu
    obtain ⟨ho,hone⟩:=H.blk h _ hm
    have hcn:std.cutn 0 u=u.toNat:=by simp [std]
    have htak:std.tak l 0 u.toNat ti.esize=l.take (u.toNat * ti.esize):=by simp [std]
    rw [hcn,htak]
    have hrun:(Instr.sliceAt t (a.eval x) none (hi.map a.eval) none).run P w=.ok (gslV (ρ h) u.toNat) w∧w.ownsRow 0 e ti.esize (gslV (ρ h) u.toNat) u.toNat (l.take (u.toNat * ti.esize)):=by
     obtain ⟨hl0,ho⟩:=ho
     have hmul:u.toNat * ti.esize≤m * ti.esize:=Nat.mul_le_mul_right _ (by omega)
     have hlen:(l.take (u.toNat * ti.esize)).length=u.toNat * ti.esize:=by simp;omega
     rcases ho with ⟨hv,hm0⟩|⟨g,cap,cur,hv,_,hcur,hnc,hcm,hcs,htk⟩
     ·subst hm0
      obtain rfl:u=0:=by omega
      refine ⟨?_,hlen,.inl ⟨by simpa using hv,rfl⟩⟩
      rcases hhi with ⟨rfl,hu'⟩|⟨xu,ku,rfl,hxu⟩
      ·simp [h0,concV,conc1,hv,Instr.sliceAt,Instr.slice,Instr.sliceBounds,run_underlying hund,sizeOf,typeInfo,hi',hsz']
      ·simp [h0,hxu,concV,conc1,hv,Instr.sliceAt,Instr.slice,Instr.sliceBounds,Instr.sliceBound,asIntOf,run_underlying hund,sizeOf,typeInfo,hi',hsz']
     ·have hvk:∀ k,gslV (ρ h) k=.slice (some ⟨g,0,none⟩) k cap:=by
       revert hv
       generalize ρ h=p
       obtain ⟨p1,p2⟩:=p
       cases p2 with
       | zero=>intro hv;simp [gslV] at hv
       | succ q =>
         intro hv k;simp only [gslV,Value.slice.injEq,Option.some.injEq,Addr.mk.injEq] at hv;obtain ⟨⟨rfl,_⟩,_,rfl⟩:=hv;rfl
      refine ⟨?_,hlen,.inr ⟨g,cap,cur,hvk _,Nat.zero_le _,hcur,by omega,hcm,hcs,?_⟩⟩
      ·have e2:0≤u∧u≤(cap:Int):=by omega
       rcases hhi with ⟨rfl,hu'⟩|⟨xu,ku,rfl,hxu⟩
       ·have hn:u=(m:Int):=hu'
        subst hn;simp [h0,concV,conc1,hvk,Instr.sliceAt,Instr.slice,Instr.sliceBounds,run_underlying hund,sizeOf,typeInfo,hi',hsz'];intro _;simp [Addr.add]
       ·simp [h0,hxu,e2,concV,conc1,hvk,Instr.sliceAt,Instr.slice,Instr.sliceBounds,Instr.sliceBound,asIntOf,run_underlying hund,sizeOf,typeInfo,hi',hsz']
        intro _;simp [Addr.add]
      ·rw [←htk,List.take_take,Nat.min_eq_left hmul]
    have hl:(setAt mem h .dead).length=mem.length:=by simp [zaf]
    refine ⟨ext2 ρ mem.length (ρ h),w,.value (gslV (ρ h) u.toNat),by rw [Sem.run_bind,show (Option.map a.eval none)=none from rfl,hrun.1];rfl,.inl ?_,fun h hh=>zba hh,?_,?_,by simp [zaf],fun j hj hjw=>?_⟩
    ·simp only [concV,conc1,zaq,zay]
    ·rw [zaf] at hl ⊢
     refine (H.kill h).addGrow (row:=(gslV (ρ h) u.toNat).ownBlock) (World.grownBy.refl w _) (fun g hgg=>?_) hrun.2 (fun v hv=>hone v (List.mem_of_mem_take hv)) (.inl rfl) (fun h hh=>zba (by omega)) (by rw [hl,zay])
     have hwr:MB.wr (ρ h) (.grow e ti.esize m l)=true∧g=(ρ h).1:=by
      revert hgg
      generalize ρ h=p
      obtain ⟨p1,p2⟩:=p
      cases p2 with
      | zero=>intro hgg;simp [gslV,Value.ownBlock] at hgg
      | succ q=>intro hgg;simp only [gslV,Value.ownBlock,Option.some.injEq] at hgg;exact ⟨rfl,hgg.symm⟩
     obtain ⟨hwr,rfl⟩:=hwr
     refine ⟨(H.free _ _ hm).1 hwr,fun k c hc=>?_⟩
     by_cases hk:k=h
     ·subst hk
      rw [List.getElem?_set_self (List.getElem?_eq_some_iff.1 hm).1] at hc;obtain rfl:=Option.some.inj hc
      exact ⟨fun h=>(by cases h.1),fun h=>(by cases h.1)⟩
     ·rw [List.getElem?_set_ne (Ne.symm hk)] at hc
      exact H.apt h k _ c hm hc (Ne.symm hk) _ (MB.wf1 hwr)
    ·show len mem<_;simp [zaq,zaf]
    ·rw [List.getElem?_append_left (by rw [hl];omega),zaf,List.getElem?_set_ne (by rintro rfl;rcases hge with h1|h1;omega;rw [h1] at hjw;cases hjw)]
   ·cases hq
  ·rename_i h n' ti hx ht
   split at hq
   ·rename_i lw u m xs hlw hu hm
    rw [zak] at hm;obtain ⟨h0,_⟩:=zar ha htm hx;replace hq:=zai hq;obtain ⟨hb,hq⟩:=hq
    cases hq
    simp only [Bool.and_eq_true] at hb;obtain ⟨⟨hb2,hb4⟩,hb5⟩:=hb;obtain ⟨hund,i',hi',hsz'⟩:=zdr hT ht hb2
    have hin:0≤lw∧lw≤u∧u≤n':=by simpa [std] using hb4
    have hcap:n'≤m:=by simpa [std] using hb5
    have hlo:=zg9 ha htm hlw
    have hhi:=zg9 ha htm hu
    obtain ⟨hrm,hcells,hone⟩:=H.blk h _ hm
    have hcn:std.cutn lw u=u.toNat-lw.toNat:=rfl
    have htak:std.tak xs (std.idx 0 lw ti.esize) (u.toNat-lw.toNat) ti.esize=(xs.drop (lw.toNat * ti.esize)).take ((u.toNat-lw.toNat) * ti.esize):=by simp [std]
    rw [hcn,htak]
    have key:∃ p,(Instr.sliceAt t (a.eval x) (lo.map a.eval) (hi.map a.eval) none).run P w=.ok (rslV p (u.toNat-lw.toNat)) w∧BlkAt ρ w p (.rs (u.toNat-lw.toNat) ((xs.drop (lw.toNat * ti.esize)).take ((u.toNat-lw.toNat) * ti.esize)))∧p.1=(ρ h).1:=by
     have hone':∀ v∈(xs.drop (lw.toNat * ti.esize)).take ((u.toNat-lw.toNat) * ti.esize),v.oneCell'=true:=fun v hv=>hone v (List.mem_of_mem_drop (List.mem_of_mem_take hv))
     by_cases hp:(ρ h).2=0
     ·have hr0:=zd1 hp
      obtain rfl:n'=0:=by omega
      obtain rfl:u=0:=by omega
      obtain rfl:lw=0:=by omega
      have e1:rslV (ρ h) 0=.slice none 0 0:=by simp [rslV,hp]
      refine ⟨((ρ h).1,0),?_,⟨.inr ⟨rfl,rfl⟩,fun j v hv=>by simp at hv,by simp⟩,rfl⟩
      have e3:rslV ((ρ h).1,0) ((0:Int).toNat-(0:Int).toNat)=.slice none 0 0:=rfl
      rw [e3]
      rcases hlo with ⟨rfl,_⟩|⟨xl,kl,rfl,hxl⟩<;>rcases hhi with ⟨rfl,_⟩|⟨xu,ku,rfl,hxu⟩
      all_goals simp [*,concV,conc1,Instr.sliceAt,Instr.slice,Instr.sliceBounds,Instr.sliceBound,asIntOf,run_underlying hund,sizeOf,typeInfo]
     ·have e1:=zc3 hp n'
      obtain ⟨q,hq⟩:=zlg (if room (ρ h)=lw.toNat then off (ρ h) else off (ρ h)+lw.toNat * ti.esize) (room (ρ h)-lw.toNat)
      have f1:off ((ρ h).1,q+1)=(if room (ρ h)=lw.toNat then off (ρ h) else off (ρ h)+lw.toNat * ti.esize):=by simp [off,hq]
      have f2:room ((ρ h).1,q+1)=room (ρ h)-lw.toNat:=by simp [room,hq]
      refine ⟨((ρ h).1,q+1),?_,⟨.inl (by rw [f2];omega),fun j v hv=>?_,hone'⟩,rfl⟩
      ·have e3:rslV ((ρ h).1,q+1) (u.toNat-lw.toNat)=.slice (some ⟨(ρ h).1,(if room (ρ h)=lw.toNat then off (ρ h) else off (ρ h)+lw.toNat * ti.esize),none⟩) (u.toNat-lw.toNat) (room (ρ h)-lw.toNat):=by
        rw [zc3 (by simp),f1,f2]
       rw [e3]
       have fin:(if room (ρ h)=lw.toNat then some (⟨(ρ h).1,off (ρ h),none⟩:Addr) else (some (⟨(ρ h).1,off (ρ h),none⟩:Addr)).map (·.add (lw.toNat * ti.esize)))=some ⟨(ρ h).1,(if room (ρ h)=lw.toNat then off (ρ h) else off (ρ h)+lw.toNat * ti.esize),none⟩:=by
        split
        ·rfl
        ·simp [Addr.add_mid]
       have g1:0≤u∧u≤(room (ρ h):Int):=by omega
       have g2:0≤lw∧lw≤(u.toNat:Int):=by omega
       have g3:0≤lw∧lw≤(n':Int):=by omega
       rcases hlo with ⟨rfl,hl'⟩|⟨xl,kl,rfl,hxl⟩<;>rcases hhi with ⟨rfl,hu'⟩|⟨xu,ku,rfl,hxu⟩
       ·have hn:u=(n':Int):=hu'
        subst hn hl';simp only [Int.toNat_zero,Nat.zero_mul,Nat.add_zero,Nat.sub_zero,Int.toNat_natCast,ite_self] at fin ⊢;simp [h0,e1,concV,conc1,Instr.sliceAt,Instr.slice,Instr.sliceBounds,run_underlying hund,sizeOf,typeInfo,hi',hsz'];intro _;simp [Addr.add]
       ·subst hl'
        simp only [Int.toNat_zero,Nat.zero_mul,Nat.add_zero,Nat.sub_zero,ite_self] at fin ⊢;simp [h0,hxu,g1,e1,concV,conc1,Instr.sliceAt,Instr.slice,Instr.sliceBounds,Instr.sliceBound,asIntOf,run_underlying hund,sizeOf,typeInfo,hi',hsz'];intro _;simp [Addr.add]
       ·have hn:u=(n':Int):=hu'
        subst hn;simp [h0,hxl,g3,e1,concV,conc1,Instr.sliceAt,Instr.slice,Instr.sliceBounds,Instr.sliceBound,asIntOf,run_underlying hund,sizeOf,typeInfo,hi',hsz']
        simpa using fin
       ·have g4:lw≤max u 0:=by omega
        simp [h0,hxl,hxu,g1,g2.1,g4,e1,concV,conc1,Instr.sliceAt,Instr.slice,Instr.sliceBounds,Instr.sliceBound,asIntOf,run_underlying hund,sizeOf,typeInfo,hi',hsz']
        simpa using fin
      ·rw [List.getElem?_take] at hv
       split at hv
       ·rename_i hj
        rw [List.getElem?_drop] at hv
        have hne:room (ρ h)≠lw.toNat:=by
         intro e
         have:u.toNat-lw.toNat=0:=by omega
         rw [this] at hj;omega
        rw [f1,if_neg hne]
        have:=hcells _ v hv
        rw [Nat.add_assoc];exact this
       ·cases hv
    obtain ⟨p,hrun,hat,hp1⟩:=key
    refine ⟨ext2 ρ mem.length p,w,.value (rslV p (u.toNat-lw.toNat)),by rw [Sem.run_bind,show (Option.map a.eval none)=none from rfl,hrun];rfl,.inl ?_,fun h hh=>zba hh,?_,?_,by simp,fun j hj hjw=>by rw [List.getElem?_append_left (by omega)]⟩
    ·simp only [concV,conc1,zaq,zay]
    ·refine H.addRs hm (fun h hh=>zba hh) (by rw [zay];exact hat) fun i hi=>?_
     rw [zay] at hi;obtain ⟨hi1,rfl⟩:=hi;refine ⟨?_,hp1⟩
     cases xs with
     | nil=>simp [MB.rd] at hi1
     | cons x xs=>rfl
    ·show len mem<_;simp [zaq]
   ·cases hq
  ·cases hq
 case makeSlice t x y =>
  split at hq
  ·rename_i k c ti hx hy ht
   obtain ⟨h0,_⟩:=zar ha htm hx;obtain ⟨h1,_⟩:=zar ha htm hy;replace hq:=zai hq;obtain ⟨hb,hq⟩:=hq
   cases hq
   simp only [Bool.and_eq_true] at hb;obtain ⟨⟨⟨hb1,hb2⟩,hb3⟩,hb4⟩:=hb
   have hb1:=Nat.le_of_ble_eq_true hb1
   have hb3:=Nat.eq_of_beq_eq_true hb3
   rw [zaq] at hb3
   obtain ⟨hu,_,ie,hie,hsz,hby,hzz⟩:=zfv hT ht (by omega)
   obtain ⟨z,hz,hzc⟩:=hzz hb3
   have hin:0≤k∧k≤c∧c≤1000000:=by simpa [std] using hb2
   have hby':(ie.bytes:Int) * c≤281474976710656:=by
    have h2:(ie.bytes:Int) * c≤(ie.bytes:Int) * 1000000:=Int.mul_le_mul_of_nonneg_left hin.2.2 (by omega)
    omega
   have hrun:=run_make (P:=P) w t ti.etype ie z hu hie hz .i64 .i64 k c hin.1 hin.2.1 hby' (by omega)
   have hcn:std.cutn 0 k=k.toNat:=by simp [std]
   have hzr:std.zeros ti.ezero k.toNat=(List.replicate k.toNat ti.ezero).flatten:=rfl
   rw [hcn,hzr]
   have hmade:(madeCells z.cells (c.toNat * ie.size)).toList.take (k.toNat * ie.size)=(List.replicate k.toNat ti.ezero).flatten:=by
    have hr:=zic ti.ezero (by omega) k.toNat
    rw [←hr,hsz,←hb3];unfold madeCells
    rw [Array.toList_map,Array.toList_range,←List.map_take,List.take_range,Nat.min_eq_left (Nat.mul_le_mul_right _ (by omega)),←hzc]
   have hol:∀ u∈(List.replicate k.toNat ti.ezero).flatten,u.oneCell'=true:=fun u hu=>by
    rw [List.mem_flatten] at hu;obtain ⟨l,hl,hu⟩:=hu;rw [List.mem_replicate] at hl;rw [hl.2] at hu;exact za8 hb4 u hu
   have hown:(w.alloc (.cells (madeCells z.cells (c.toNat * ie.size)) ti.etype)).ownsRow 0 ti.etype ti.esize (.slice (some ⟨w.heap.size,0,none⟩) k.toNat c.toNat) k.toNat ((List.replicate k.toNat ti.ezero).flatten):=by
    refine ⟨by simp [hb3],.inr ⟨w.heap.size,c.toNat,_,rfl,Nat.zero_le _,heap_alloc_new w _,by omega,by simp only [maxLen];omega,by rw [size_madeCells,hsz],by rw [←hsz];exact hmade⟩⟩
   refine ⟨ext2 ρ mem.length (w.heap.size,c.toNat+1),w.alloc (.cells (madeCells z.cells (c.toNat * ie.size)) ti.etype),.value (.slice (some ⟨w.heap.size,0,none⟩) k.toNat c.toNat),?_,.inl ?_,fun h hh=>zba hh,?_,?_,by simp,fun j hj hjw=>by rw [List.getElem?_append_left (by omega)]⟩
   ·show (Instr.makeSlice t (a.eval x) (a.eval y) >>= fun v=>pure (Next.value v):Sem Next).run P w=_
    rw [h0,h1,Sem.run_bind,show concV ρ (.one (.val (.int .i64 k)))=.int .i64 k from rfl,show concV ρ (.one (.val (.int .i64 c)))=.int .i64 c from rfl,hrun]
    rfl
   ·simp only [concV,conc1,zaq,zay];rfl
   ·exact H.addGrow (row:=none) (World.grownBy_alloc w _ none) (fun g hg=>by cases hg) hown hol (.inr rfl) (fun h hh=>zba hh) (by rw [zay];rfl)
   ·show len mem<_;simp [zaq]
  ·cases hq
end
end Eng
end Go.Proofs.YtpigpajgjdcagaaGreat
