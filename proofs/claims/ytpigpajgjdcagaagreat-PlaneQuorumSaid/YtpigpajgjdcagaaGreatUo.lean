/- Parts. -/
import Derived.Test.YtpigpajgjdcagaaGreatUh
import Derived.Test.YtpigpajgjdcagaaGreatUf
import Derived.Test.YtpigpajgjdcagaaGreatUg
set_option linter.unusedSimpArgs false
set_option linter.unusedVariables false
set_option maxRecDepth 100000
set_option maxHeartbeats 60000000
namespace Go.Proofs.YtpigpajgjdcagaaGreat
open Go.RowKit Eng
def bV (l:List UInt8):List Value:=l.map fun b=>.int .u8 (b.toNat:Int)
theorem zki (l r:List UInt8):bV (l++r)=bV l++bV r:=by simp [bV]
theorem zxs (l:List UInt8):(bV l).length=l.length:=by simp [bV]
theorem zxr (x:UInt8):bV [x]=[.int .u8 (x.toNat:Int)]:=rfl
theorem wrapU {n:Int} (h0:0≤n) (h1:n<18446744073709551616):IntKind.wrap .u64 n=n:=by
 simp only [IntKind.wrap,IntKind.bits,IntKind.signed,Bool.false_and];simp only [Bool.false_eq_true,if_false]
 exact Int.emod_eq_of_lt h0 (by simpa using h1)
theorem wrapU' (n:Int):IntKind.wrap .u64 n=n % 18446744073709551616:=by
 simp [IntKind.wrap,IntKind.bits,IntKind.signed]
theorem wrapB' (n:Int):IntKind.wrap .u8 n=n % 256:=by
 simp [IntKind.wrap,IntKind.bits,IntKind.signed]
theorem wrapB {n:Int} (h0:0≤n) (h1:n<256):IntKind.wrap .u8 n=n:=by
 rw [wrapB'];omega
theorem wrapI' (n:Int):IntKind.wrap .i64 n=if 9223372036854775808≤n % 18446744073709551616 then n % 18446744073709551616-18446744073709551616 else n % 18446744073709551616:=by
 simp [IntKind.wrap,IntKind.bits,IntKind.signed]
theorem qa9 {n:Int} (h:¬ n<0) (hi:n≤9223372036854775807):std.shl .u64 (std.conv .u64 n) 1=(zig n:Int):=by
 have e:std.shl .u64 (std.conv .u64 n) 1=IntKind.wrap .u64 (IntKind.wrap .u64 n * 2 ^ (min (1:Int).toNat 64)):=rfl
 rw [e,wrapU (n:=n) (by omega) (by omega),wrapU',zig,if_neg h]
 simp;omega
theorem zqo (x:Nat) (h:x<18446744073709551616):std.bxor .u64 18446744073709551615 (x:Int)=((18446744073709551615-x:Nat):Int):=by
 have e:std.bxor .u64 18446744073709551615 (x:Int)=IntKind.wrap .u64 ((BitVec.ofInt 64 18446744073709551615 ^^^ BitVec.ofInt 64 (x:Int)).toNat:Int):=rfl
 have e1:BitVec.ofInt 64 18446744073709551615=BitVec.allOnes 64:=by decide
 have e2:BitVec.ofInt 64 (x:Int)=BitVec.ofNat 64 x:=by
  apply BitVec.eq_of_toNat_eq
  simp
 rw [e,e1,e2,BitVec.allOnes_xor,BitVec.toNat_not,BitVec.toNat_ofNat,Nat.mod_eq_of_lt h]
 rw [wrapU (by omega) (by omega)]
theorem qba {n:Int} (h:n<0) (hi:-9223372036854775808≤n):std.bxor .u64 18446744073709551615 (std.shl .u64 (std.conv .u64 n) 1)=(zig n:Int):=by
 have e:std.shl .u64 (std.conv .u64 n) 1=IntKind.wrap .u64 (IntKind.wrap .u64 n * 2 ^ (min (1:Int).toNat 64)):=rfl
 have e1:std.shl .u64 (std.conv .u64 n) 1=((18446744073709551616+2 * n).toNat:Int):=by
  rw [e,wrapU',wrapU'];simp;omega
 rw [e1,zqo _ (by omega),zig,if_pos h]
 omega
theorem ze9 {x:Nat} (h:x<18446744073709551616):(BitVec.ofInt 64 (x:Int)).toNat=x:=by
 simp;omega
theorem zg5 {x:Nat} (h:x<256):(BitVec.ofInt 8 (x:Int)).toNat=x:=by
 simp;omega
theorem bor128 (u:Nat):std.bor .u8 (std.conv .u8 (u:Int)) 128=((u % 128+128:Nat):Int):=by
 have e:std.bor .u8 (std.conv .u8 (u:Int)) 128=IntKind.wrap .u8 ((BitVec.ofInt 8 (IntKind.wrap .u8 u) ||| BitVec.ofInt 8 128).toNat:Int):=rfl
 have e1:(IntKind.wrap .u8 (u:Int))=((u % 256:Nat):Int):=by rw [wrapB'];omega
 rw [e,e1,BitVec.toNat_or,zg5 (by omega)]
 have e2:(BitVec.ofInt 8 128).toNat=128:=by decide
 rw [e2]
 have key:∀ b:Fin 256,b.val ||| 128=b.val % 128+128:=by decide +kernel
 have:=key ⟨u % 256,by omega⟩
 dsimp only at this
 rw [this,wrapB (by omega) (by omega)]
 omega
theorem zkr (u k:Nat) (hk:k≤64):std.shr (u:Int) (k:Int) .u64=((u / 2 ^ k:Nat):Int):=by
 have e:std.shr (u:Int) (k:Int) .u64=(u:Int).fdiv (2 ^ (min (k:Int).toNat 64)):=rfl
 rw [e];simp only [Int.toNat_natCast,Nat.min_eq_left hk]
 rw [Int.fdiv_eq_ediv_of_nonneg _ (by exact Int.le_of_lt (Int.pow_pos (by decide)))]
 simp
theorem znn (u:Nat):std.conv .u8 (u:Int)=((u % 256:Nat):Int):=by
 show IntKind.wrap .u8 (u:Int)=_
 rw [wrapB'];omega
def encPre:Nat→Nat→List UInt8
 | 0,_=>[]
 | i+1,u=>encPre i u++[UInt8.ofNat (u / 128 ^ i % 128+128)]
theorem zke:∀ i u,(encPre i u).length=i
 | 0,_=>rfl
 | i+1,u=>by simp [encPre,zke i]
theorem qaa {i u:Nat} (hi:i<9) (h:encU 9 u=encPre i u++encU (9-i) (u / 128 ^ i)) (hb:128≤u / 128 ^ i):encU 9 u=encPre (i+1) u++encU (9-(i+1)) (u / 128 ^ (i+1)):=by
 obtain ⟨f,hf⟩:∃ f,9-i=f+1:=⟨8-i,by omega⟩
 rw [h,hf,encU,if_neg (by omega),encPre,List.append_assoc]
 congr 1
 rw [List.singleton_append,show 9-(i+1)=f by omega,Nat.pow_succ,Nat.div_div_eq_div_mul]
theorem zqj {i u:Nat} (hi:i≤9) (h:encU 9 u=encPre i u++encU (9-i) (u / 128 ^ i)) (hb:u / 128 ^ i<128):encU 9 u=encPre i u++[UInt8.ofNat (u / 128 ^ i)]:=by
 rw [h]
 congr 1
 cases h9:9-i with
 | zero=>simp [encU]
 | succ f=>rw [encU,if_pos hb]
theorem zxb {i u:Nat} (hu:u<18446744073709551616) (hi:i≤9) (hb:128≤u / 128 ^ i):i<9:=by
 rcases Nat.lt_or_ge i 9 with h|h
 ·exact h
 ·obtain rfl:i=9:=by omega
  have:u / 128 ^ 9<128:=Nat.div_lt_of_lt_mul (by omega)
  omega
end Go.Proofs.YtpigpajgjdcagaaGreat
namespace Go.Proofs.YtpigpajgjdcagaaGreat
open Go.RowKit
namespace Eng
section
variable {E:Env} {R:Ending→World→Prop}
def mvg (h h':Nat):S1→S1
 | .gsl k m=>bif Nat.beq k h then .gsl h' m else .gsl k m
 | x=>x
theorem zzz {k:List It} {tm:PT} {mem:List MB} (h:Nat) {t:TypeId} {z n:Nat} {l:List Value} (hk:softK k=true) (hb:nth mem h=some (.grow t z n l))
 (hg:Good E R ⟨k,mapP (mvg h (len mem)) tm,mapBs (mvg h (len mem)) (setAt mem h .dead)++[.grow t z n l]⟩):Good E R ⟨k,tm,mem⟩:=by
 intro ρ w a hρ hl H htm ha hit;dsimp only at hl H htm ha hit;obtain ⟨p,hp⟩:∃ p,p=ρ h:=⟨_,rfl⟩;rw [zak] at hb
 have hlt:=(List.getElem?_eq_some_iff.1 hb).1
 have hex:∀ i,i<mem.length→ρ i=ext2 ρ mem.length p i:=fun i hi=>zba hi
 have hsub:Subs (ext2 ρ mem.length p) ρ (mvg h (len mem)) mem.length:=fun x hx=>by
  cases x with
  | gsl j m =>
    simp only [mvg]
    cases hj:Nat.beq j h with
    | true =>
      obtain rfl:=Nat.eq_of_beq_eq_true hj;simp only [cond_true,conc1,zaq,zay,hp]
    | false=>exact (za2 hex hx).symm
  | _=>exact (za2 hex hx).symm
 have okS:∀ x:S1,x.ok mem.length→(mvg h (len mem) x).ok (mem.length+1):=fun x hx=>by
  cases x with
  | gsl j m =>
    simp only [mvg]
    cases Nat.beq j h with
    | true=>show len mem<_;rw [zaq];omega
    | false=>exact S1.ok.mono (Nat.le_succ _) hx
  | _=>exact S1.ok.mono (Nat.le_succ _) hx
 have okL:∀ l:List S1,(∀ x∈l,x.ok mem.length)→∀ x∈map1s (mvg h (len mem)) l,x.ok (mem.length+1):=fun l hl x hx=>by
  rw [za6,List.mem_map] at hx;obtain ⟨y,hy,rfl⟩:=hx;exact okS y (hl y hy)
 have okB:∀ b:MB,b.ok mem.length→(mapB (mvg h (len mem)) b).ok (mem.length+1):=fun b hb=>by
  cases b<;>first|exact okL _ hb|trivial
 have okV:∀ v:SV,v.ok mem.length→(mapV (mvg h (len mem)) v).ok (mem.length+1):=fun v hv=>by
  cases v with
  | one x=>exact okS x hv
  | agg l=>exact okL l hv
  | tup l =>
    intro x hx;rw [zcn,List.mem_map] at hx;obtain ⟨y,hy,rfl⟩:=hx
    have:=hv y hy
    cases y with
    | one x=>exact okS x this
    | agg l=>exact okL l this
  | any=>trivial
 have hml:(mapBs (mvg h (len mem)) (setAt mem h .dead)).length=mem.length:=by simp [zbq,zaf]
 have hl2:(mapBs (mvg h (len mem)) (setAt mem h .dead)++[MB.grow t z n l]).length=mem.length+1:=by rw [List.length_append,hml];rfl
 have get:∀ (j:Nat) (b:MB),(mapBs (mvg h (len mem)) (setAt mem h .dead)++[.grow t z n l])[j]?=some b→(j<mem.length∧j≠h∧∃ b0,mem[j]?=some b0∧b=mapB (mvg h (len mem)) b0)∨(j=h∧b=.dead)∨(j=mem.length∧b=.grow t z n l):=fun j b hj=>by
  rcases Nat.lt_trichotomy j mem.length with h1|h1|h1
  ·rw [List.getElem?_append_left (by omega),zbq,zaf,List.getElem?_map,Option.map_eq_some_iff] at hj
   obtain ⟨b0,h2,rfl⟩:=hj
   by_cases e:j=h
   ·subst e
    rw [List.getElem?_set_self h1] at h2;obtain rfl:=Option.some.inj h2;exact .inr (.inl ⟨rfl,rfl⟩)
   ·rw [List.getElem?_set_ne (Ne.symm e)] at h2
    exact .inl ⟨h1,e,b0,h2,rfl⟩
  ·subst h1
   rw [←hml] at hj;simp at hj;exact .inr (.inr ⟨rfl,hj.symm⟩)
  ·rw [List.getElem?_eq_none (by simp [hml];omega)] at hj;cases hj
 refine zcb hk hρ hl (by omega) hex ?_ (fun j v hv=>by
  rw [zc0,Option.map_eq_some_iff] at hv;obtain ⟨v0,hv0,rfl⟩:=hv;rw [hl2];exact okV v0 (htm j v0 hv0)) (zfr hsub htm ha) hg
 refine H.move (fun k=>k=h) (fun k=>k=h∨k=mem.length) id (fun i=>MB.wf (ρ h) i (.grow t z n l)) (fun i hi=>.inl ⟨h,_,rfl,hb,hi⟩) (Gr.refl _ _) (fun _ _ _ _ e=>e) (fun b hbm=>?_) (fun j b hj hn=>?_) (fun j b hj hn=>?_) (fun j i b d hj hi hb1 hd1 hne q hw=>?_)
 ·rw [hl2]
  obtain ⟨j,hj⟩:=List.getElem?_of_mem hbm
  rcases get j b hj with ⟨_,_,b0,h2,rfl⟩|⟨_,rfl⟩|⟨_,rfl⟩
  ·exact okB b0 (H.ok b0 (List.mem_of_getElem? h2))
  ·trivial
  ·trivial
 ·rcases get j b hj with ⟨h1,h2,b0,h3,rfl⟩|⟨h1,_⟩|⟨h1,_⟩
  ·refine ⟨h2,b0,h3,fun i hi=>?_,fun i hi=>?_,fun hk=>?_⟩
   ·rw [←hex j h1] at hi;exact zbt.1 hi
   ·rw [←hex j h1] at hi;exact zd2.1 hi
   ·rw [←hex j h1];exact zcw hsub (H.ok b0 (List.mem_of_getElem? h3)) hk
  ·exact absurd (.inl h1) hn
  ·exact absurd (.inr h1) hn
 ·rcases get j b hj with ⟨h1,h2,_⟩|⟨_,rfl⟩|⟨rfl,rfl⟩
  ·omega
  ·exact ⟨trivial,fun i hi=>(by cases hi.1),fun i hi=>(by cases hi.1)⟩
  ·rw [zay]
   rw [hp]
   exact ⟨H.blk h _ hb,fun i hi=>hi,fun i hi=>(by cases hi.1)⟩
 ·rcases get j b hb1 with ⟨h1,h2,_⟩|⟨_,rfl⟩|⟨e1,rfl⟩
  ·omega
  ·cases hw.1
  ·rcases get i d hd1 with ⟨h3,h4,_⟩|⟨_,rfl⟩|⟨e2,rfl⟩
   ·omega
   ·exact ⟨fun h9=>(by cases h9.1),fun h9=>(by cases h9.1)⟩
   ·exact absurd (e1.trans e2.symm) hne
theorem Sat.rew {w0:World} {own:List Nat} {ρ:Nat→Nat × Nat} {mem:List MB} {w:World} (H:Sat w0 own ρ mem w) {h:Nat} {t:TypeId} {l l':List S1} (hb:mem[h]?=some (.own t l)) (hl:l'.map (conc1 ρ)=l.map (conc1 ρ)) (hok:∀ x∈l',x.ok mem.length):Sat w0 own ρ (mem.set h (.own t l')) w:=by
 have hlt:=(List.getElem?_eq_some_iff.1 hb).1
 have get:∀ (k:Nat) (b:MB),(mem.set h (.own t l'))[k]?=some b→∃ c,mem[k]?=some c∧(∀ i,b.wf (ρ k) i→c.wf (ρ k) i)∧(∀ i,b.rf (ρ k) i→c.rf (ρ k) i)∧(BlkAt ρ w (ρ k) c→BlkAt ρ w (ρ k) b):=fun k b hk=>by
  by_cases e:h=k
  ·subst e
   rw [List.getElem?_set_self hlt] at hk;obtain rfl:=Option.some.inj hk
   refine ⟨_,hb,fun i hi=>hi,fun i hi=>hi,fun hB=>⟨hB.1,?_⟩⟩
   rw [hl];exact hB.2
  ·rw [List.getElem?_set_ne e] at hk
   exact ⟨b,hk,fun _ h=>h,fun _ h=>h,fun h=>h⟩
 refine ⟨H.gr,fun k b hk=>?_,fun b hbm=>?_,fun k b hk=>?_,fun k j b c hk hj hne i hw=>?_⟩
 ·obtain ⟨c,h1,_,_,h4⟩:=get k b hk
  exact h4 (H.blk k c h1)
 ·rw [List.length_set]
  rcases List.mem_or_eq_of_mem_set hbm with h1|rfl
  ·exact H.ok b h1
  ·exact hok
 ·obtain ⟨c,h1,h2,h3,_⟩:=get k b hk
  exact ⟨fun i hi=>(H.fre k c h1).1 i (h2 i hi),fun i hi=>(H.fre k c h1).2 i (h3 i hi)⟩
 ·obtain ⟨b',h1,h2,_,_⟩:=get k b hk
  obtain ⟨c',h5,h6,h7,_⟩:=get j c hj
  have:=H.apt k j b' c' h1 h5 hne i (h2 i hw)
  exact ⟨fun h=>this.1 (h6 i h),fun h=>this.2 (h7 i h)⟩
theorem Sat.addNil {w0:World} {own:List Nat} {ρ:Nat→Nat × Nat} {mem:List MB} {w:World} (H:Sat w0 own ρ mem w) (t:TypeId) (z:Nat):Sat w0 own (ext2 ρ mem.length (0,0)) (mem++[.grow t z 0 []]) w :=
 H.snoc (fun _=>False) (fun _ h=>h.elim) (Gr.refl _ _) trivial (fun h hh=>zba hh) (by
  rw [zay]
  exact ⟨⟨by simp,.inl ⟨rfl,rfl⟩⟩,fun u hu=>(by cases hu)⟩) (fun i hi=>by rw [zay] at hi;cases hi.1) (fun i hi=>by cases hi.1)
theorem zb7 {k:List It} {tm:PT} {mem:List MB} (h j:Nat) (t:TypeId) (z:Nat) {u:TypeId} {l:List S1} (hb:nth mem h=some (.own u l)) (hj:nth l j=some (.val (.slice none 0 0))) (hk:softK k=true)
 (hg:Good E R ⟨k,tm,setAt mem h (.own u (setAt l j (.gsl (len mem) 0)))++[.grow t z 0 []]⟩):Good E R ⟨k,tm,mem⟩:=by
 intro ρ w a hρ hl H htm ha hit;dsimp only at hl H htm ha hit;rw [zak] at hb hj;rw [zaf,zaf] at hg
 have hlt:=(List.getElem?_eq_some_iff.1 hb).1
 have hag:∀ h,h<mem.length→ρ h=ext2 ρ mem.length (0,0) h:=fun h hh=>zba hh
 have e:mem.set h (.own u (l.set j (.gsl (len mem) 0)))++[MB.grow t z 0 []]=(mem++[MB.grow t z 0 []]).set h (.own u (l.set j (.gsl (len mem) 0))):=by
  rw [List.set_append_left _ _ hlt]
 rw [e] at hg
 have hls:((mem++[MB.grow t z 0 []]).set h (.own u (l.set j (.gsl (len mem) 0)))).length=mem.length+1:=by simp
 have h1:=(H.addNil t z).rew (h:=h) (l:=l) (t:=u) (l':=l.set j (.gsl (len mem) 0)) (by rw [List.getElem?_append_left hlt];exact hb) (by
  rw [List.map_set]
  refine List.ext_getElem? fun i=>?_
  by_cases hi:j=i
  ·subst hi
   have hjl:=(List.getElem?_eq_some_iff.1 hj).1
   rw [List.getElem?_set_self (by simpa using hjl),List.getElem?_map,hj]
   simp only [Option.map_some,conc1,zaq,zay];rfl
  ·rw [List.getElem?_set_ne hi]) (fun x hx=>by
  rcases List.mem_or_eq_of_mem_set hx with h9|rfl
  ·have:=H.ok _ (List.mem_of_getElem? hb) x h9
   exact this.mono (by simp)
  ·show len mem<_
   rw [zaq];simp)
 exact zcb hk hρ hl (by rw [hls];omega) hag h1 (fun j x hx=>by rw [hls];exact (htm j x hx).mono (by omega)) (ha.ext htm hag) hg
end
theorem zcz {P:Program} {f:FuncId} {args:List SV} {v:SV} {ι:Type} {m:ι→List MB} {W:Nat→Prop} (hgo:Goes P f) (hne:∀ x,m x≠[]) (hv:okV1 1 v=true) (ha:okA1 1 args=true) (h:∀ x,TriP P f args (m x) v):TriP P f args [.obj (packO m W)] v:=by
 refine ⟨hgo,fun w0 own ρ w H _=>?_⟩
 obtain ⟨x,h0,ρx,h1,h2,h3,h4⟩:=H.blk 0 _ rfl
 have hlen:1≤(m x).length:=by
  cases hm:m x with
  | nil=>exact absurd hm (hne x)
  | cons b r=>simp
 have Hx:Sat w0 own ρx (m x) w:=⟨H.gr,h2,fun b hb=>(h0 b hb).2,fun j b hb=>⟨fun i hi=>(H.fre 0 _ rfl).1 i ((h3 i).2 ⟨j,b,hb,hi⟩),fun i hi=>by have:=hi.1;rw [(h0 b (List.mem_of_getElem? hb)).1] at this;cases this⟩,
  fun j k b c hb hc hne i hw=>⟨fun hc'=>h4 j k b c hb hc hne i hw hc',fun hc'=>by have:=hc'.1;rw [(h0 c (List.mem_of_getElem? hc)).1] at this;cases this⟩⟩
 have hag:∀ j,j<1→ρx j=ρ j:=fun j hj=>by obtain rfl:j=0:=(by omega);exact h1
 have hargs:args.map (concV ρ)=args.map (concV ρx):=List.map_congr_left fun u hu=>(zaz hag (zbc ha u hu)).symm
 rw [hargs]
 refine ((h x).2 w0 own ρx w Hx fun u hu=>(zbc ha u hu).mono hlen).mono ?_
 rintro e w' ⟨v',mem',ρ',rfl,⟨rfl,rfl⟩,_,_,hag',H'⟩
 have e0:ρ' 0=ρ 0:=by rw [←hag' 0 (by omega),h1]
 refine ⟨v',_,ρ,by rw [zaz (n:=1) (fun j hj=>by obtain rfl:j=0:=(by omega);exact e0) (zb0 hv)],⟨rfl,rfl⟩,zb0 hv,Nat.le_refl _,fun _ _=>rfl,H'.gr,fun j b hb=>?_,fun b hb=>?_,fun j b hb=>?_,fun j k b c hb hc hne=>?_⟩
 ·cases j with
  | zero =>
    obtain rfl:MB.obj (packO m W)=b:=by simpa using hb
    refine ⟨x,h0,ρ',e0,H'.blk,fun i=>?_,fun j k b c hb hc hne i hw=>(H'.apt j k b c hb hc hne i hw).1⟩
    rw [h3 i]
    constructor
    ·rintro ⟨j,b,hb,hw⟩
     exact ⟨j,b,hb,by rw [←hag' j (List.getElem?_eq_some_iff.1 hb).1];exact hw⟩
    ·rintro ⟨j,b,hb,hw⟩
     exact ⟨j,b,hb,by rw [hag' j (List.getElem?_eq_some_iff.1 hb).1];exact hw⟩
  | succ j=>simp at hb
 ·obtain rfl:b=MB.obj (packO m W):=by simpa using hb
  trivial
 ·cases j with
  | zero =>
    obtain rfl:MB.obj (packO m W)=b:=by simpa using hb
    exact ⟨(H.fre 0 _ rfl).1,fun i hi=>by cases hi.1⟩
  | succ j=>simp at hb
 ·cases j with
  | zero =>
    cases k with
    | zero=>exact absurd rfl hne
    | succ k=>simp at hc
  | succ j=>simp at hb
end Eng
end Go.Proofs.YtpigpajgjdcagaaGreat
namespace Go.Proofs.YtpigpajgjdcagaaGreat
open Go.RowKit Eng
def entV (x:Int × EnD):List Value:=iv x.1::x.2.list.map iv
def logV (l:List (Int × EnD)):List Value:=l.flatMap entV
def jB (t v:Int) (nl:Nat) (LV:List Value) (nd:Nat) (DV:List Value) (du:Int):List MB :=
 [.own 285 [.ptr 1 0 0,.val (iv t),.val (iv v),.gsl 2 nl],.own 309 [.gsl 3 nd,.val (iv du)],.grow 270 10 nl LV,.grow 5 1 nd DV]
structure JD where
 j:JSt
 D:List UInt8
 du:Int
def JD.B (x:JD):List MB:=jB x.j.term x.j.vote x.j.log.length (logV x.j.log) x.D.length (bV x.D) x.du
namespace Eng
def pk (m:List MB) (W:Nat→Prop):MB:=.obj (packO (fun _:Unit=>m) W)
def TriX (P:Program) (f:FuncId) (args:List SV) (mem:List MB) (v:SV) (M:(Nat→Prop)→List MB):Prop:=Tri P f args mem fun u m=>u=v∧∃ W,m=M W
section
variable {E:Env} {R:Ending→World→Prop}
theorem znb (vw:List VW) {f:FuncId} {args args0:List SV} {dst:Option Tmp} {k:List It} {tm:PT} {mem mem0:List MB} {v0:SV} {M:(Nat→Prop)→List MB} (ht:TriX E.P f args0 mem0 v0 M) (hargs:args=mapVs (vwS vw mem.length) args0) (hv:views mem vw mem.length vw mem0) (hd:distinct (sameH vw)=true) (hcl:clM vw mem0=true) (hok:okM1 mem0.length mem0=true) (hca:clA vw args0=true) (hao:okA1 mem0.length args0=true)
 (hcv:clV vw v0=true) (hcm:∀ W,clM vw (M W)=true) (hrd:∀ W,rdSame (M W) mem0) (hk:headW (sameH vw) k=true) (h:∀ W,Good E R ⟨k,putE tm dst (mapV (vwS vw mem.length) v0),upd vw mem.length mem vw (M W)⟩):Good E R ⟨.call f args dst::k,tm,mem⟩ :=
 zhl vw ht hargs hv hd hcl (zaj hok) hca (zbc hao) (fun v m hq=>by obtain ⟨rfl,W,rfl⟩:=hq;exact ⟨hcv,hcm W,hrd W⟩) hk fun v m hq=>by obtain ⟨rfl,W,rfl⟩:=hq;exact h W
theorem kX (vw:List VW) {f:FuncId} {args args0:List SV} {dst:Option Tmp} {k:List It} {tm:PT} {mem mem0:List MB} {v0:SV} {M:(Nat→Prop)→List MB} (ht:TriX E.P f args0 mem0 v0 M) (h:∀ W,Good E R ⟨k,putE tm dst (mapV (vwS vw mem.length) v0),upd vw mem.length mem vw (M W)⟩) (hargs:args=mapVs (vwS vw mem.length) args0:=by rfl) (hv:views mem vw mem.length vw mem0:=by ((repeat' (first|exact trivial|exact rfl|exact ⟨rfl,Nat.le_refl _,[],(List.append_nil _).symm⟩|refine ⟨?_,?_⟩));first|done|fail)) (hd:distinct (sameH vw)=true:=by exact rfl) (hcl:clM vw mem0=true:=by exact rfl) (hok:okM1 mem0.length mem0=true:=by exact rfl) (hca:clA vw args0=true:=by exact rfl) (hao:okA1 mem0.length args0=true:=by exact rfl)
 (hcv:clV vw v0=true:=by exact rfl) (hcm:∀ W,clM vw (M W)=true:=by exact fun _=>rfl) (hrd:∀ W,rdSame (M W) mem0:=by (intro _;(repeat' (first|exact .inl rfl|exact .inr rfl|exact trivial|exact rfl|refine ⟨?_,?_⟩));first|done|fail)) (hk:headW (sameH vw) k=true:=by exact rfl):Good E R ⟨.call f args dst::k,tm,mem⟩:=znb vw ht hargs hv hd hcl hok hca hao hcv hcm hrd hk h
end
end Eng
def PJ (x:JD) (W:Nat→Prop):MB:=pk x.B W
def PeekJ (f:FuncId) (args:List SV) (x:JD) (v:SV):Prop:=∀ W,TriP Tryz.prog f (.one (.ptr 0 0 0)::args) [PJ x W] v
theorem peekJ {f:FuncId} {args:List SV} {x:JD} {v:SV} (h:TriP Tryz.prog f (.one (.ptr 0 0 0)::args) x.B v) (hv:okV1 1 v=true) (ha:okA1 1 args=true):PeekJ f args x v:=fun W =>
 zcz h.1 (by nofun) hv (by simpa [okA1,okV1,okS1] using ha) fun _=>h
def atJ (lg:List (Int × EnD)) (i:Int):Int × EnD:=if 0≤i∧i<lg.length then lg.getD i.toNat (0,EnD.of []) else (0,EnD.of [])
def rowS (x:Int × EnD):List S1:=[.val (iv x.1),.val (iv x.2.kind),.val (iv x.2.tick),.val (iv x.2.tenant),.val (iv x.2.cell),.val (iv x.2.other),.val (iv x.2.epoch),.val (iv x.2.lo),.val (iv x.2.hi),.val (iv x.2.n)]
end Go.Proofs.YtpigpajgjdcagaaGreat
namespace Go.Proofs.YtpigpajgjdcagaaGreat
open Go.RowKit
namespace Eng
def gA (p:Nat × Nat):Option Addr:=if p.2=0 then none else some ⟨p.1,0,none⟩
def gC (p:Nat × Nat):Nat:=p.2-1
theorem zwp (p:Nat × Nat) (n:Nat):gslV p n=.slice (gA p) n (gC p):=by
 unfold gslV gA gC
 split
 ·rename_i h;simp [h]
 ·rename_i c h;simp [h]
def atO (b:MB) (p0:Nat × Nat):AO where
 W i:=b.wf p0 i
 Φ p w:=p=p0∧b.rd=false∧b.ok 0∧BlkAt (fun _=>(0,0)) w p0 b
 stable:=fun _ _ _ hw ⟨h1,h2,h3,h4⟩=>⟨h1,h2,h3,h4.keep fun i hi=>hw i (hi.elim id fun h=>by have:=h.1;rw [h2] at this;cases this)⟩
 low:=fun _ _ _ ⟨_,_,_,h4⟩ hi=>h4.low hi
theorem qdf {b:MB} (h:b.ok 0) (n:Nat):b.ok n:=h.mono (Nat.zero_le n)
theorem zln {b:MB} (h:b.ok 0) {ρ ρ':Nat→Nat × Nat} {w:World} {p:Nat × Nat} (hb:BlkAt ρ w p b):BlkAt ρ' w p b:=hb.congr (n:=0) (fun i hi=>absurd hi (Nat.not_lt_zero i)) h
def snk (h:Nat) (p:Nat × Nat) (A:Option Addr) (c:Nat):S1→S1
 | .gsl k m=>bif Nat.beq k h then .val (.slice A m c) else .gsl k m
 | .ptr k b o=>bif Nat.beq k h then .val (.pointer (some ⟨p.1,p.2+(b+o),none⟩)) else .ptr k b o
 | x=>x
section
variable {E:Env} {R:Ending→World→Prop}
theorem qbq {h:Nat} {p:Nat × Nat} {ρ:Nat→Nat × Nat} {n:Nat} (hp:p=ρ h):Subs ρ ρ (snk h p (gA p) (gC p)) n:=fun x _=>by
 cases x with
 | gsl k m =>
   simp only [snk]
   cases hk:Nat.beq k h with
   | true =>
     obtain rfl:=Nat.eq_of_beq_eq_true hk;simp only [cond_true,conc1,←hp,zwp]
   | false=>rfl
 | ptr k b o =>
   simp only [snk]
   cases hk:Nat.beq k h with
   | true =>
     obtain rfl:=Nat.eq_of_beq_eq_true hk;simp only [cond_true,conc1,←hp]
   | false=>rfl
 | _=>rfl
theorem qan {h:Nat} {p:Nat × Nat} {A:Option Addr} {c n:Nat}:∀ {x:S1},x.ok n→(snk h p A c x).ok n
 | .gsl k m, hx => by
   simp only [snk]
   cases Nat.beq k h with
   | true=>trivial
   | false=>exact hx
 | .ptr k b o, hx => by
   simp only [snk]
   cases Nat.beq k h with
   | true=>trivial
   | false=>exact hx
 | .val _,_=>trivial
 | .slc _ _ _ _,hx=>hx
 | .clo _ _,hx=>hx
 | .gptr _ _ _,hx=>hx
 | .rsl _ _,hx=>hx
 | .rptr _ _ _,hx=>hx
 | .bnd _ _,hx=>hx
theorem zk5 {g:S1→S1} {n:Nat} (hg:∀ x:S1,x.ok n→(g x).ok n) {l:List S1} (hl:∀ x∈l,x.ok n):∀ x∈map1s g l,x.ok n:=fun x hx=>by
 rw [za6,List.mem_map] at hx;obtain ⟨y,hy,rfl⟩:=hx;exact hg y (hl y hy)
theorem qb9 {g:S1→S1} {n:Nat} (hg:∀ x:S1,x.ok n→(g x).ok n) {b:MB} (hb:b.ok n):(mapB g b).ok n:=by
 cases b<;>first|exact zk5 hg hb|trivial
theorem qb8 {g:S1→S1} {n:Nat} (hg:∀ x:S1,x.ok n→(g x).ok n) {v:SV} (hv:v.ok n):(mapV g v).ok n:=by
 cases v with
 | one x=>exact hg x hv
 | agg l=>exact zk5 hg hv
 | tup l =>
   intro x hx;rw [zcn,List.mem_map] at hx;obtain ⟨y,hy,rfl⟩:=hx
   have:=hv y hy
   cases y with
   | one x=>exact hg x this
   | agg l=>exact zk5 hg this
 | any=>trivial
theorem zwv {k:List It} {tm:PT} {mem:List MB} (h e:Nat) {b:MB} {L:List AO} (hk:softK k=true) (hb:nth mem h=some b) (he:nth mem e=some (.obj (poolO L))) (hne:Nat.beq h e=false) (hrd:b.rd=false) (hbok:∀ n,b.ok n)
 (hg:∀ (p:Nat × Nat) (A:Option Addr) (c:Nat),A=gA p→c=gC p→Good E R ⟨k,mapP (snk h p A c) tm,setAt (setAt (mapBs (snk h p A c) mem) h .dead) e (.obj (poolO (L++[atO b p])))⟩):Good E R ⟨k,tm,mem⟩:=by
 intro ρ w a hρ hl H htm ha hit;dsimp only at hl H htm ha hit;obtain ⟨p,hp⟩:∃ p,p=ρ h:=⟨_,rfl⟩;rw [zak] at hb he
 have hlt:=(List.getElem?_eq_some_iff.1 hb).1
 have helt:=(List.getElem?_eq_some_iff.1 he).1
 have hne':h≠e:=fun x=>by subst x;rw [Nat.beq_refl] at hne;cases hne
 have hsub:=fun n=>qbq (n:=n) hp
 have hg:=hg p _ _ rfl rfl
 rw [zaf,zaf,zbq] at hg
 have hls:(((mem.map (mapB (snk h p (gA p) (gC p)))).set h .dead).set e (.obj (poolO (L++[atO b p])))).length=mem.length:=by simp
 have get:∀ (j:Nat) (d:MB),(((mem.map (mapB (snk h p (gA p) (gC p)))).set h .dead).set e (.obj (poolO (L++[atO b p]))))[j]?=some d→(j=e∧d=.obj (poolO (L++[atO b p])))∨(j=h∧d=.dead)∨(j≠e∧j≠h∧∃ b0,mem[j]?=some b0∧d=mapB (snk h p (gA p) (gC p)) b0):=fun j d hj=>by
  by_cases e1:e=j
  ·subst e1
   rw [List.getElem?_set_self (by simpa using helt)] at hj
   exact .inl ⟨rfl,(Option.some.inj hj).symm⟩
  ·rw [List.getElem?_set_ne e1] at hj
   by_cases e2:h=j
   ·subst e2
    rw [List.getElem?_set_self (by simpa using hlt)] at hj
    exact .inr (.inl ⟨rfl,(Option.some.inj hj).symm⟩)
   ·rw [List.getElem?_set_ne e2,List.getElem?_map,Option.map_eq_some_iff] at hj
    obtain ⟨b0,h1,rfl⟩:=hj;exact .inr (.inr ⟨Ne.symm e1,Ne.symm e2,b0,h1,rfl⟩)
 obtain ⟨⟨ps,hps⟩,hdis⟩:=H.blk e _ he
 have hbat:BlkAt ρ w p b:=by rw [hp];exact H.blk h b hb
 have hap:=H.apt h e _ _ hb he hne'
 have hatW:∀ i,(atO b p).W i→b.wf (ρ h) i:=fun i hi=>by rw [←hp];exact hi
 have hadW:∀ i,(poolO L).W i→¬ (atO b p).W i:=fun i hi hi'=>(hap i (hatW i hi')).1 hi
 refine zcb hk hρ hl (by rw [hls];exact Nat.le_refl _) (fun _ _=>rfl) ?_ (fun j v hv=>by
  rw [zc0,Option.map_eq_some_iff] at hv;obtain ⟨v0,hv0,rfl⟩:=hv;rw [hls]
  exact qb8 (fun x hx=>qan hx) (htm j v0 hv0)) (zfr (hsub _) htm ha) hg
 refine H.move (fun j=>j=h∨j=e) (fun j=>j=h∨j=e) id (fun i=>b.wf (ρ h) i∨(poolO L).W i) (fun i hi=>.inl (hi.elim (fun h1=>⟨h,_,.inl rfl,hb,h1⟩) fun h1=>⟨e,_,.inr rfl,he,h1⟩)) (Gr.refl _ _) (fun _ _ _ _ x=>x) (fun d hd=>?_) (fun j d hj hn=>?_) (fun j d hj hn=>?_) (fun j i d c hj hi hd1 hc1 hne q hw=>?_)
 ·rw [hls]
  obtain ⟨j,hj⟩:=List.getElem?_of_mem hd
  rcases get j d hj with ⟨_,rfl⟩|⟨_,rfl⟩|⟨_,_,b0,h1,rfl⟩
  ·trivial
  ·trivial
  ·exact qb9 (fun x hx=>qan hx) (H.ok b0 (List.mem_of_getElem? h1))
 ·rcases get j d hj with ⟨h1,_⟩|⟨h1,_⟩|⟨h1,h2,b0,h3,rfl⟩
  ·exact absurd (.inr h1) hn
  ·exact absurd (.inl h1) hn
  ·exact ⟨fun h9=>h9.elim h2 h1,b0,h3,fun i hi=>zbt.1 hi,fun i hi=>zd2.1 hi,fun hk=>zcw (hsub _) (H.ok b0 (List.mem_of_getElem? h3)) hk⟩
 ·rcases get j d hj with ⟨h1,rfl⟩|⟨h1,rfl⟩|⟨h1,h2,_⟩
  ·subst h1
   refine ⟨⟨⟨(List.range (L.length+1)).map fun i=>if i<L.length then ps.getD i (0,0) else p,fun i o ho=>?_⟩,fun i1 i2 o1 o2 e1 e2 hne q hq1 hq2=>?_⟩,fun i hi=>?_,fun i hi=>(by cases hi.1)⟩
   ·have hil:=(List.getElem?_eq_some_iff.1 ho).1
    simp only [List.length_append,List.length_singleton] at hil
    rcases Nat.lt_or_ge i L.length with h1|h1
    ·rw [List.getElem?_append_left h1] at ho
     obtain ⟨q,h2,h3⟩:=hps i o ho
     exact ⟨q,by simp only [List.getElem?_map,List.getElem?_range hil,Option.map_some,h1,if_true,List.getD_eq_getElem?_getD,h2,Option.getD_some],h3⟩
    ·obtain rfl:i=L.length:=by omega
     rw [List.getElem?_append_right (Nat.le_refl _)] at ho;simp at ho;subst ho
     refine ⟨p,by simp,rfl,hrd,hbok 0,zln (hbok 0) hbat⟩
   ·have key:∀ (i:Nat) (o:AO),(L++[atO b p])[i]?=some o→(i<L.length∧L[i]?=some o)∨(i=L.length∧o=atO b p):=fun i o ho=>by
     rcases Nat.lt_or_ge i L.length with h1|h1
     ·rw [List.getElem?_append_left h1] at ho;exact .inl ⟨h1,ho⟩
     ·rw [List.getElem?_append_right h1] at ho
      have:i-L.length=0:=by
       have:=(List.getElem?_eq_some_iff.1 ho).1
       simp at this;omega
      rw [this] at ho;simp at ho
      exact .inr ⟨by omega,ho.symm⟩
    rcases key i1 o1 e1 with ⟨h8,h9⟩|⟨h8,rfl⟩<;>rcases key i2 o2 e2 with ⟨h10,h11⟩|⟨h10,rfl⟩
    ·exact hdis i1 i2 o1 o2 h9 h11 hne q hq1 hq2
    ·exact hadW q ⟨o1,List.mem_of_getElem? h9,hq1⟩ hq2
    ·exact hadW q ⟨o2,List.mem_of_getElem? h11,hq2⟩ hq1
    ·exact hne (h8.trans h10.symm)
   ·obtain ⟨o,ho,h8⟩:=hi
    rcases List.mem_append.1 ho with ho|ho
    ·exact .inr ⟨o,ho,h8⟩
    ·obtain rfl:o=atO b p:=by simpa using ho
     exact .inl (hatW i h8)
  ·exact ⟨trivial,fun i hi=>(by cases hi.1),fun i hi=>(by cases hi.1)⟩
  ·exact (hn.elim h2 h1).elim
 ·rcases get j d hd1 with ⟨h1,rfl⟩|⟨h1,rfl⟩|⟨h1,h2,_⟩
  ·rcases get i c hc1 with ⟨h3,rfl⟩|⟨h3,rfl⟩|⟨h3,h4,_⟩
   ·exact absurd (h1.trans h3.symm) hne
   ·exact ⟨fun h9=>(by cases h9.1),fun h9=>(by cases h9.1)⟩
   ·exact (hi.elim h4 h3).elim
  ·cases hw.1
  ·exact (hj.elim h2 h1).elim
theorem zr6 {k:List It} {tm:PT} {mem:List MB} (hk:softK k=true) (hg:Good E R ⟨k,tm,mem++[.obj (poolO [])]⟩):Good E R ⟨k,tm,mem⟩:=by
 intro ρ w a hρ hl H htm ha hit;dsimp only at hl H htm ha hit
 refine zcb hk hρ hl (by simp) (fun _ _=>rfl) ?_ (htm.mono (by simp)) ha hg
 refine H.snoc (fun _=>False) (fun _ h=>h.elim) (Gr.refl _ _) trivial (fun _ _=>rfl) ⟨⟨[],fun i o h=>by simp at h⟩,fun i j o o' h=>by simp at h⟩ (fun i hi=>?_) (fun i hi=>(by cases hi.1))
 obtain ⟨o,ho,_⟩:=hi;simp at ho
theorem zf1 {k:List It} {tm:PT} {mem:List MB} (slot:Nat) (t:TypeId) (z:Nat) (hs:tget tm slot=some (.one (.val (.slice none 0 0)))) (hk:softK k=true)
 (hg:Good E R ⟨k,tset tm slot (.one (.gsl (len mem) 0)),mem++[.grow t z 0 []]⟩):Good E R ⟨k,tm,mem⟩:=by
 intro ρ w a hρ hl H htm ha hit;dsimp only at hl H htm ha hit
 have hag:∀ h,h<mem.length→ρ h=ext2 ρ mem.length (0,0) h:=fun h hh=>zba hh
 have hls:(mem++[MB.grow t z 0 []]).length=mem.length+1:=by simp
 refine zcb hk hρ hl (by rw [hls];omega) hag (H.addNil t z) (fun j x hx=>?_) ⟨ha.defers,fun j x hx=>?_⟩ hg
 ·rw [hls]
  rcases za5 tm slot _ j x hx with ⟨_,rfl,_⟩|⟨_,h1⟩
  ·show len mem<_;rw [zaq];omega
  ·exact (htm j x h1).mono (by omega)
 ·rcases za5 tm slot _ j x hx with ⟨rfl,rfl,_⟩|⟨_,h1⟩
  ·obtain ⟨y,h1,h2⟩:=ha.get j _ hs
   refine ⟨y,h1,fun _=>?_⟩
   rw [h2 (by simp)]
   simp only [concV,conc1,zaq,zay];rfl
  ·exact (ha.ext htm hag).get j x h1
end
theorem zmt {w0:World} {own:List Nat} {ρ:Nat→Nat × Nat} {w:World} {b:MB} {p0:Nat × Nat} {rest:List MB} (H:Sat w0 own ρ (.obj (atO b p0)::rest) w):ρ 0=p0∧b.rd=false∧b.ok 0∧Sat w0 own ρ (b::rest) w:=by
 obtain ⟨h1,h2,h3,h4⟩:=H.blk 0 _ rfl
 refine ⟨h1,h2,h3,H.gr,fun k c hc=>?_,fun c hc=>?_,fun k c hc=>?_,fun k j c d hc hd hne i hw=>?_⟩
 ·cases k with
  | zero =>
    obtain rfl:b=c:=by simpa using hc
    show BlkAt ρ w (ρ 0) b
    rw [h1];exact zln h3 h4
  | succ k=>exact H.blk (k+1) c (by simpa using hc)
 ·rcases List.mem_cons.1 hc with rfl|hc
  ·exact qdf h3 _
  ·exact H.ok c (by simp [hc])
 ·cases k with
  | zero =>
    obtain rfl:b=c:=by simpa using hc
    refine ⟨fun i hi=>(H.fre 0 _ rfl).1 i ?_,fun i hi=>by have:=hi.1;rw [h2] at this;cases this⟩
    rw [h1] at hi;exact hi
  | succ k=>exact H.fre (k+1) c (by simpa using hc)
 ·have key:∀ (k:Nat) (c:MB),(b::rest)[k]?=some c→∃ c',(MB.obj (atO b p0)::rest)[k]?=some c'∧(∀ i,c.wf (ρ k) i→c'.wf (ρ k) i)∧∀ i,c.rf (ρ k) i→c'.rf (ρ k) i:=fun k c hc=>by
   cases k with
   | zero =>
     obtain rfl:b=c:=by simpa using hc
     refine ⟨_,rfl,fun i hi=>?_,fun i hi=>by have:=hi.1;rw [h2] at this;cases this⟩
     rw [h1] at hi;exact hi
   | succ k=>exact ⟨c,by simpa using hc,fun _ h=>h,fun _ h=>h⟩
  obtain ⟨c',e1,e2,e3⟩:=key k c hc;obtain ⟨d',f1,f2,f3⟩:=key j d hd
  have:=H.apt k j c' d' e1 f1 hne i (e2 i hw)
  exact ⟨fun h=>this.1 (f2 i h),fun h=>this.2 (f3 i h)⟩
theorem znu {w0:World} {own:List Nat} {ρ:Nat→Nat × Nat} {w:World} {b:MB} {rest:List MB} (h2:b.rd=false) (h3:b.ok 0) (H:Sat w0 own ρ (b::rest) w):Sat w0 own ρ (.obj (atO b (ρ 0))::rest) w:=by
 have key:∀ (k:Nat) (c:MB),(MB.obj (atO b (ρ 0))::rest)[k]?=some c→∃ c',(b::rest)[k]?=some c'∧(∀ i,c.wf (ρ k) i→c'.wf (ρ k) i)∧∀ i,c.rf (ρ k) i→c'.rf (ρ k) i:=fun k c hc=>by
  cases k with
  | zero =>
    obtain rfl:MB.obj (atO b (ρ 0))=c:=by simpa using hc
    exact ⟨_,rfl,fun i hi=>hi,fun i hi=>(by cases hi.1)⟩
  | succ k=>exact ⟨c,by simpa using hc,fun _ h=>h,fun _ h=>h⟩
 refine ⟨H.gr,fun k c hc=>?_,fun c hc=>?_,fun k c hc=>?_,fun k j c d hc hd hne i hw=>?_⟩
 ·cases k with
  | zero =>
    obtain rfl:MB.obj (atO b (ρ 0))=c:=by simpa using hc
    exact ⟨rfl,h2,h3,zln h3 (H.blk 0 b rfl)⟩
  | succ k=>exact H.blk (k+1) c (by simpa using hc)
 ·rcases List.mem_cons.1 hc with rfl|hc
  ·trivial
  ·exact H.ok c (by simp [hc])
 ·obtain ⟨c',e1,e2,e3⟩:=key k c hc
  have:=H.fre k c' e1
  exact ⟨fun i hi=>this.1 i (e2 i hi),fun i hi=>this.2 i (e3 i hi)⟩
 ·obtain ⟨c',e1,e2,e3⟩:=key k c hc
  obtain ⟨d',f1,f2,f3⟩:=key j d hd
  have:=H.apt k j c' d' e1 f1 hne i (e2 i hw)
  exact ⟨fun h=>this.1 (f2 i h),fun h=>this.2 (f3 i h)⟩
theorem qbl {P:Program} {f:FuncId} {args:List SV} {b:MB} {rest:List MB} {v:SV} {B:(Nat→Prop)→MB} {Rs:(Nat→Prop)→List MB} (hB:∀ W,(B W).rd=false∧(B W).ok 0) (h:TriX P f args (b::rest) v fun W=>B W::Rs W) (p0:Nat × Nat):TriX P f args (.obj (atO b p0)::rest) v fun W=>.obj (atO (B W) p0)::Rs W:=by
 refine ⟨h.1,fun w0 own ρ w H ha=>?_⟩
 obtain ⟨h1,h2,h3,H'⟩:=zmt H;refine (h.2 w0 own ρ w H' ha).mono ?_
 rintro e w' ⟨u,mem',ρ',rfl,⟨rfl,W,rfl⟩,hu,hle,hag,H''⟩
 have e0:ρ' 0=p0:=by rw [←hag 0 (by simp),h1]
 have:=znu (hB W).1 (hB W).2 H''
 rw [e0] at this;exact ⟨u,_,ρ',rfl,⟨rfl,W,rfl⟩,hu,hle,hag,this⟩
theorem qbm {P:Program} {f:FuncId} {args:List SV} {b:MB} {rest:List MB} {v:SV} (h:TriP P f args (b::rest) v) (p0:Nat × Nat):TriP P f args (.obj (atO b p0)::rest) v:=by
 refine ⟨h.1,fun w0 own ρ w H ha=>?_⟩
 obtain ⟨h1,h2,h3,H'⟩:=zmt H;refine (h.2 w0 own ρ w H' ha).mono ?_
 rintro e w' ⟨u,mem',ρ',rfl,⟨rfl,rfl⟩,hu,hle,hag,H''⟩
 have e0:ρ' 0=p0:=by rw [←hag 0 (by simp),h1]
 have:=znu h2 h3 H''
 rw [e0] at this;exact ⟨u,_,ρ',rfl,⟨rfl,rfl⟩,hu,hle,hag,this⟩
end Eng
namespace Eng
def keepV (l:List Nat):List VW→List MB→List MB→Prop
 | .same h::r,b::m0,c::m=>(inL l h=true∨c=b)∧keepV l r m0 m
 | .rd _::r,_::m0,_::m=>keepV l r m0 m
 | _,_,_=>True
theorem ziu {l:List Nat}:∀ {vw:List VW} {m0 m:List MB},keepV l vw m0 m→∀ (i h:Nat) (b c:MB),vw[i]?=some (VW.same h)→m0[i]?=some b→m[i]?=some c→inL l h=false→c=b
 | [],_,_,_,i,_,_,_,hi,_,_,_=>by simp at hi
 | .same g::r,[],_,_,i,h,b,c,_,hb,_,_=>by simp at hb
 | .same g::r,_::_,[],_,i,h,b,c,_,_,hc,_=>by simp at hc
 | .same g :: r, b0 :: m0, c0 :: m, hk, 0, h, b, c, hi, hb, hc, hn => by
   obtain rfl:g=h:=by simpa using hi
   obtain rfl:b0=b:=by simpa using hb
   obtain rfl:c0=c:=by simpa using hc
   rcases hk.1 with h1|h1
   ·rw [h1] at hn;cases hn
   ·exact h1
 | .same g::r,b0::m0,c0::m,hk,i+1,h,b,c,hi,hb,hc,hn=>ziu hk.2 i h b c (by simpa using hi) (by simpa using hb) (by simpa using hc) hn
 | .rd x::r,[],_,_,i,h,b,c,_,hb,_,_=>by simp at hb
 | .rd x::r,_::_,[],_,i,h,b,c,_,_,hc,_=>by simp at hc
 | .rd x::r,b0::m0,c0::m,hk,0,h,b,c,hi,hb,hc,hn=>by simp at hi
 | .rd x::r,b0::m0,c0::m,hk,i+1,h,b,c,hi,hb,hc,hn=>ziu (vw:=r) (m0:=m0) (m:=m) hk i h b c (by simpa using hi) (by simpa using hb) (by simpa using hc) hn
def TriY {β:Type} (P:Program) (f:FuncId) (args:List SV) (mem:List MB) (v:SV) (M:β→List MB):Prop:=Tri P f args mem fun u m=>u=v∧∃ y,m=M y
section
variable {E:Env} {R:Ending→World→Prop}
theorem znc (vw:List VW) (l:List Nat) {f:FuncId} {args args0:List SV} {dst:Option Tmp} {k:List It} {tm:PT} {mem mem0:List MB} {Q:SV→List MB→Prop} (ht:Tri E.P f args0 mem0 Q) (hargs:args=mapVs (vwS vw mem.length) args0) (hv:views mem vw mem.length vw mem0) (hd:distinct (sameH vw)=true) (hcl:clM vw mem0=true) (hok:∀ b∈mem0,b.ok mem0.length) (hca:clA vw args0=true) (hao:∀ v∈args0,v.ok mem0.length)
 (hQ:∀ v m,Q v m→clV vw v=true∧clM vw m=true∧rdSame m mem0∧keepV l vw mem0 m∧vw.length≤m.length) (hk:headW l k=true)
 (h:∀ v m,Q v m→Good E R ⟨k,putE tm dst (mapV (vwS vw mem.length) v),upd vw mem.length mem vw m⟩):Good E R ⟨.call f args dst::k,tm,mem⟩:=by
 intro ρ w a hρ hl H htm ha hit;subst hargs
 refine ⟨ht.1,(zcs vw ht hv hd hcl hok hca hao (fun v m hq=>⟨(hQ v m hq).1,(hQ v m hq).2.1,(hQ v m hq).2.2.1⟩) E.w0 E.own ρ w H).mono ?_⟩
 rintro e w' ⟨v,m,ρ',rfl,hq,hvok,hle,hρ',H'⟩
 refine ⟨_,rfl,?_⟩;obtain ⟨hlen,hget⟩:=zdv hv;obtain ⟨_,_,_,hkeep,hvl⟩:=hQ v m hq
 have hml:mem.length≤(upd vw mem.length mem vw m).length:=hle
 have hsame:∀ j,j<mem.length→inL l j=false→(upd vw mem.length mem vw m)[j]?=mem[j]?:=fun j hj hn=>by
  obtain ⟨b,hb⟩:∃ b,(upd vw mem.length mem vw m)[j]?=some b:=⟨_,List.getElem?_eq_getElem (by omega)⟩
  rw [hb]
  rcases ze4 hvl hd j b hb with ⟨_,_,h3⟩|⟨i,c,h1,h2,rfl⟩|⟨h1,_⟩
  ·exact h3.symm
  ·obtain ⟨b0,hb0⟩:∃ b0,mem0[i]?=some b0:=⟨_,List.getElem?_eq_getElem (by rw [←hlen];exact (List.getElem?_eq_some_iff.1 h1).1)⟩
   obtain rfl:=ziu hkeep i j b0 c h1 hb0 h2 hn
   rcases hget i c hb0 with ⟨h',h3,h4⟩|⟨x,q,xs,h3,_⟩
   ·rw [h1] at h3
    obtain rfl:j=h':=by simpa using h3
    exact h4.symm
   ·rw [h1] at h3;simp at h3
  ·omega
 have:=h v m hq ρ' w' _ (fun h p hp=>by rw [←hρ' h (Nat.lt_of_lt_of_le (List.getElem?_eq_some_iff.1 hp).1 hl)];exact hρ h p hp) (Nat.le_trans hl hle) H' (zck (htm.mono hle) hvok) (zbz (ha.ext htm hρ') _ _) (zci (tl hit) hle fun it hi all n0 W m0 ls ord m he h hh hw=>by
  have hok:=tl hit it hi
  rw [he] at hok;exact hsame h (Nat.lt_of_lt_of_le hh hok.2.1) (zeu hk it hi all n0 W m0 ls ord m he h hh hw))
 rw [←za4 hρ' fun it hi=>tl hit it hi] at this
 exact this
theorem zwr (vw:List VW) (l:List Nat) {β:Type} {f:FuncId} {args args0:List SV} {dst:Option Tmp} {k:List It} {tm:PT} {mem mem0:List MB} {v0:SV} {M:β→List MB} (ht:TriY E.P f args0 mem0 v0 M) (hargs:args=mapVs (vwS vw mem.length) args0) (hv:views mem vw mem.length vw mem0) (hd:distinct (sameH vw)=true) (hcl:clM vw mem0=true) (hok:okM1 mem0.length mem0=true) (hca:clA vw args0=true) (hao:okA1 mem0.length args0=true)
 (hcv:clV vw v0=true) (hcm:∀ y,clM vw (M y)=true) (hrd:∀ y,rdSame (M y) mem0) (hkp:∀ y,keepV l vw mem0 (M y)) (hvl:∀ y,vw.length≤(M y).length) (hk:headW l k=true) (h:∀ y,Good E R ⟨k,putE tm dst (mapV (vwS vw mem.length) v0),upd vw mem.length mem vw (M y)⟩):Good E R ⟨.call f args dst::k,tm,mem⟩ :=
 znc vw l ht hargs hv hd hcl (zaj hok) hca (zbc hao) (fun v m hq=>by obtain ⟨rfl,y,rfl⟩:=hq;exact ⟨hcv,hcm y,hrd y,hkp y,hvl y⟩) hk fun v m hq=>by obtain ⟨rfl,y,rfl⟩:=hq;exact h y
theorem zb6 {k:List It} {tm:PT} {mem:List MB} (h e:Nat) (b:MB) {o:AO} {L:List AO} (ho:o=poolO L) (hk:softK k=true) (hb:nth mem h=some b) (he:nth mem e=some (.obj o)) (hne:Nat.beq h e=false) (hrd:b.rd=false) (hbok:∀ n,b.ok n)
 (hg:∀ (p:Nat × Nat) (A:Option Addr) (c:Nat) (o':AO),A=gA p→c=gC p→o'=poolO (L++[atO b p])→Good E R ⟨k,mapP (snk h p A c) tm,setAt (setAt (mapBs (snk h p A c) mem) h .dead) e (.obj o')⟩):Good E R ⟨k,tm,mem⟩:=by
 subst ho
 exact zwv h e hk hb he hne hrd hbok fun p A c h1 h2=>hg p A c _ h1 h2 rfl
theorem zax {k:List It} {tm:PT} {mem:List MB} (hk:softK k=true) (hg:∀ o:AO,o=poolO []→Good E R ⟨k,tm,mem++[.obj o]⟩):Good E R ⟨k,tm,mem⟩ :=
 zr6 hk (hg _ rfl)
theorem zf2 {k:List It} {tm:PT} {mem:List MB} (e:Nat) (t:TypeId) (z:Nat) {o:AO} {L:List AO} (ho:o=poolO L) (hk:softK k=true) (he:nth mem e=some (.obj o))
 (hg:∀ o':AO,o'=poolO (L++[atO (.grow t z 0 []) (0,0)])→Good E R ⟨k,tm,setAt mem e (.obj o')⟩):Good E R ⟨k,tm,mem⟩:=by
 subst ho
 have hg:=hg _ rfl
 intro ρ w a hρ hl H htm ha hit;dsimp only at hl H htm ha hit;rw [zak] at he;rw [zaf] at hg
 have helt:=(List.getElem?_eq_some_iff.1 he).1
 have hnil:∀ i,¬ (atO (.grow t z 0 []) (0,0)).W i:=fun i hi=>by cases hi.1
 obtain ⟨⟨ps,hps⟩,hdis⟩:=H.blk e _ he
 have get:∀ (j:Nat) (d:MB),(mem.set e (.obj (poolO (L++[atO (.grow t z 0 []) (0,0)]))))[j]?=some d→(j=e∧d=.obj (poolO (L++[atO (.grow t z 0 []) (0,0)])))∨(j≠e∧mem[j]?=some d):=fun j d hj=>by
  by_cases e1:e=j
  ·subst e1
   rw [List.getElem?_set_self helt] at hj;exact .inl ⟨rfl,(Option.some.inj hj).symm⟩
  ·rw [List.getElem?_set_ne e1] at hj
   exact .inr ⟨Ne.symm e1,hj⟩
 refine zcb hk hρ hl (by simp) (fun _ _=>rfl) ?_ (htm.mono (by simp)) ha hg
 refine H.move (fun j=>j=e) (fun j=>j=e) id (fun i=>(poolO L).W i) (fun i hi=>.inl ⟨e,_,rfl,he,hi⟩) (Gr.refl _ _) (fun _ _ _ _ x=>x) (fun d hd=>?_) (fun j d hj hn=>?_) (fun j d hj hn=>?_) (fun j i d c hj hi hd1 hc1 hne=>absurd (hj.trans hi.symm) hne)
 ·rw [List.length_set]
  rcases List.mem_or_eq_of_mem_set hd with h1|rfl
  ·exact H.ok d h1
  ·trivial
 ·rcases get j d hj with ⟨h1,_⟩|⟨h1,h2⟩
  ·exact absurd h1 hn
  ·exact ⟨h1,d,h2,fun _ h=>h,fun _ h=>h,fun h=>h⟩
 ·rcases get j d hj with ⟨h1,rfl⟩|⟨h1,_⟩
  ·subst h1
   refine ⟨⟨⟨(List.range (L.length+1)).map fun i=>if i<L.length then ps.getD i (0,0) else (0,0),fun i o ho=>?_⟩,fun i1 i2 o1 o2 e1 e2 hne q hq1 hq2=>?_⟩,fun i hi=>?_,fun i hi=>(by cases hi.1)⟩
   ·have hil:=(List.getElem?_eq_some_iff.1 ho).1
    simp only [List.length_append,List.length_singleton] at hil
    rcases Nat.lt_or_ge i L.length with h1|h1
    ·rw [List.getElem?_append_left h1] at ho
     obtain ⟨q,h2,h3⟩:=hps i o ho
     exact ⟨q,by simp only [List.getElem?_map,List.getElem?_range hil,Option.map_some,h1,if_true,List.getD_eq_getElem?_getD,h2,Option.getD_some],h3⟩
    ·obtain rfl:i=L.length:=by omega
     rw [List.getElem?_append_right (Nat.le_refl _)] at ho;simp at ho;subst ho
     exact ⟨(0,0),by simp,rfl,rfl,trivial,⟨⟨by simp,.inl ⟨rfl,rfl⟩⟩,fun u hu=>(by cases hu)⟩⟩
   ·have key:∀ (i:Nat) (o:AO),(L++[atO (.grow t z 0 []) (0,0)])[i]?=some o→(i<L.length∧L[i]?=some o)∨o=atO (.grow t z 0 []) (0,0):=fun i o ho=>by
     rcases Nat.lt_or_ge i L.length with h1|h1
     ·rw [List.getElem?_append_left h1] at ho;exact .inl ⟨h1,ho⟩
     ·rw [List.getElem?_append_right h1] at ho
      have:=List.mem_of_getElem? ho
      exact .inr (by simpa using this)
    rcases key i1 o1 e1 with ⟨h8,h9⟩|rfl
    ·rcases key i2 o2 e2 with ⟨h10,h11⟩|rfl
     ·exact hdis i1 i2 o1 o2 h9 h11 hne q hq1 hq2
     ·exact hnil q hq2
    ·exact hnil q hq1
   ·obtain ⟨o,ho,h8⟩:=hi
    rcases List.mem_append.1 ho with ho|ho
    ·exact ⟨o,ho,h8⟩
    ·obtain rfl:o=atO (.grow t z 0 []) (0,0):=by simpa using ho
     exact absurd h8 (hnil i)
  ·exact absurd hn h1
def slg (h h' n:Nat):S1→S1
 | .slc k b m c=>bif Nat.beq k h && (Nat.beq b 0 && Nat.beq c n) then .gsl h' m else .slc k b m c
 | x=>x
theorem zfz {k:List It} {tm:PT} {mem:List MB} (h n z:Nat) (vs:List Value) {t:TypeId} (hk:softK k=true) (hb:nth mem h=some (.own t (vals vs))) (hn:n≤1000000) (hv:vs.length=n * z) (h1:valsB vs=true)
 (hg:Good E R ⟨k,mapP (slg h (len mem) n) tm,mapBs (slg h (len mem) n) (setAt mem h .dead)++[.grow t z n vs]⟩):Good E R ⟨k,tm,mem⟩:=by
 intro ρ w a hρ hl H htm ha hit;dsimp only at hl H htm ha hit;rw [zak] at hb
 have hlt:=(List.getElem?_eq_some_iff.1 hb).1
 have hone:∀ u∈vs,u.oneCell'=true:=za8 h1
 obtain ⟨hp0,hkh⟩:=H.blk h _ hb
 rw [zbg,List.map_map,show (conc1 ρ ∘ S1.val)=id from rfl,List.map_id] at hkh
 obtain ⟨p,hp⟩:∃ p:Nat × Nat,p=((ρ h).1,n+1):=⟨_,rfl⟩
 have hex:∀ i,i<mem.length→ρ i=ext2 ρ mem.length p i:=fun i hi=>zba hi
 have hsub:Subs (ext2 ρ mem.length p) ρ (slg h (len mem) n) mem.length:=fun x hx=>by
  cases x with
  | slc j b m c =>
    simp only [slg]
    cases hj:Nat.beq j h && (Nat.beq b 0 && Nat.beq c n) with
    | true =>
      simp only [Bool.and_eq_true] at hj;obtain rfl:=Nat.eq_of_beq_eq_true hj.1;obtain rfl:=Nat.eq_of_beq_eq_true hj.2.1;obtain rfl:=Nat.eq_of_beq_eq_true hj.2.2;simp only [cond_true,conc1,zaq,zay,hp,gslV,hp0]
    | false=>exact (za2 hex hx).symm
  | _=>exact (za2 hex hx).symm
 have okS:∀ x:S1,x.ok mem.length→(slg h (len mem) n x).ok (mem.length+1):=fun x hx=>by
  cases x with
  | slc j b m c =>
    simp only [slg]
    cases Nat.beq j h && (Nat.beq b 0 && Nat.beq c n) with
    | true=>show len mem<_;rw [zaq];omega
    | false=>exact S1.ok.mono (Nat.le_succ _) hx
  | _=>exact S1.ok.mono (Nat.le_succ _) hx
 have okL:∀ l:List S1,(∀ x∈l,x.ok mem.length)→∀ x∈map1s (slg h (len mem) n) l,x.ok (mem.length+1):=fun l hl x hx=>by
  rw [za6,List.mem_map] at hx;obtain ⟨y,hy,rfl⟩:=hx;exact okS y (hl y hy)
 have okB:∀ b:MB,b.ok mem.length→(mapB (slg h (len mem) n) b).ok (mem.length+1):=fun b hb=>by
  cases b<;>first|exact okL _ hb|trivial
 have okV:∀ v:SV,v.ok mem.length→(mapV (slg h (len mem) n) v).ok (mem.length+1):=fun v hv=>by
  cases v with
  | one x=>exact okS x hv
  | agg l=>exact okL l hv
  | tup l =>
    intro x hx;rw [zcn,List.mem_map] at hx;obtain ⟨y,hy,rfl⟩:=hx
    have:=hv y hy
    cases y with
    | one x=>exact okS x this
    | agg l=>exact okL l this
  | any=>trivial
 have hml:(mapBs (slg h (len mem) n) (setAt mem h .dead)).length=mem.length:=by simp [zbq,zaf]
 have hl2:(mapBs (slg h (len mem) n) (setAt mem h .dead)++[MB.grow t z n vs]).length=mem.length+1:=by rw [List.length_append,hml];rfl
 have get:∀ (j:Nat) (b:MB),(mapBs (slg h (len mem) n) (setAt mem h .dead)++[.grow t z n vs])[j]?=some b→(j<mem.length∧j≠h∧∃ b0,mem[j]?=some b0∧b=mapB (slg h (len mem) n) b0)∨(j=h∧b=.dead)∨(j=mem.length∧b=.grow t z n vs):=fun j b hj=>by
  rcases Nat.lt_trichotomy j mem.length with h1|h1|h1
  ·rw [List.getElem?_append_left (by omega),zbq,zaf,List.getElem?_map,Option.map_eq_some_iff] at hj
   obtain ⟨b0,h2,rfl⟩:=hj
   by_cases e:j=h
   ·subst e
    rw [List.getElem?_set_self h1] at h2;obtain rfl:=Option.some.inj h2;exact .inr (.inl ⟨rfl,rfl⟩)
   ·rw [List.getElem?_set_ne (Ne.symm e)] at h2
    exact .inl ⟨h1,e,b0,h2,rfl⟩
  ·subst h1
   rw [←hml] at hj;simp at hj;exact .inr (.inr ⟨rfl,hj.symm⟩)
  ·rw [List.getElem?_eq_none (by simp [hml];omega)] at hj;cases hj
 have hmax:1000000≤maxLen:=by decide
 have hrow:BlkAt (ext2 ρ mem.length p) w p (.grow t z n vs):=by
  refine ⟨⟨hv,.inr ⟨(ρ h).1,n,vs.toArray,by rw [hp];rfl,Nat.zero_le _,hkh,Nat.le_refl _,by omega,by simpa using hv,?_⟩⟩,hone⟩
  rw [←hv];simp
 refine zcb hk hρ hl (by omega) hex ?_ (fun j v hv=>by
  rw [zc0,Option.map_eq_some_iff] at hv;obtain ⟨v0,hv0,rfl⟩:=hv;rw [hl2];exact okV v0 (htm j v0 hv0)) (zfr hsub htm ha) hg
 refine H.move (fun k=>k=h) (fun k=>k=h∨k=mem.length) id (fun i=>MB.wf (ρ h) i (.own t (vals vs))) (fun i hi=>.inl ⟨h,_,rfl,hb,hi⟩) (Gr.refl _ _) (fun _ _ _ _ e=>e) (fun b hbm=>?_) (fun j b hj hn=>?_) (fun j b hj hn=>?_) (fun j i b d hj hi hb1 hd1 hne q hw=>?_)
 ·rw [hl2]
  obtain ⟨j,hj⟩:=List.getElem?_of_mem hbm
  rcases get j b hj with ⟨_,_,b0,h2,rfl⟩|⟨_,rfl⟩|⟨_,rfl⟩
  ·exact okB b0 (H.ok b0 (List.mem_of_getElem? h2))
  ·trivial
  ·trivial
 ·rcases get j b hj with ⟨h1,h2,b0,h3,rfl⟩|⟨h1,_⟩|⟨h1,_⟩
  ·refine ⟨h2,b0,h3,fun i hi=>?_,fun i hi=>?_,fun hk=>?_⟩
   ·rw [←hex j h1] at hi;exact zbt.1 hi
   ·rw [←hex j h1] at hi;exact zd2.1 hi
   ·rw [←hex j h1];exact zcw hsub (H.ok b0 (List.mem_of_getElem? h3)) hk
  ·exact absurd (.inl h1) hn
  ·exact absurd (.inr h1) hn
 ·rcases get j b hj with ⟨h1,h2,_⟩|⟨_,rfl⟩|⟨rfl,rfl⟩
  ·omega
  ·exact ⟨trivial,fun i hi=>(by cases hi.1),fun i hi=>(by cases hi.1)⟩
  ·rw [zay]
   refine ⟨hrow,fun i hi=>⟨rfl,?_⟩,fun i hi=>(by cases hi.1)⟩
   have:=hi.2
   rw [hp] at this;exact this
 ·rcases get j b hb1 with ⟨h1,h2,_⟩|⟨_,rfl⟩|⟨e1,rfl⟩
  ·omega
  ·cases hw.1
  ·rcases get i d hd1 with ⟨h3,h4,_⟩|⟨_,rfl⟩|⟨e2,rfl⟩
   ·omega
   ·exact ⟨fun h9=>(by cases h9.1),fun h9=>(by cases h9.1)⟩
   ·exact absurd (e1.trans e2.symm) hne
theorem kY (vw:List VW) (l:List Nat) {β:Type} {f:FuncId} {args args0:List SV} {dst:Option Tmp} {k:List It} {tm:PT} {mem mem0:List MB} {v0:SV} {M:β→List MB} (ht:TriY E.P f args0 mem0 v0 M) (h:∀ y,Good E R ⟨k,putE tm dst (mapV (vwS vw mem.length) v0),upd vw mem.length mem vw (M y)⟩) (hargs:args=mapVs (vwS vw mem.length) args0:=by rfl) (hv:views mem vw mem.length vw mem0:=by ((repeat' (first|exact trivial|exact rfl|exact ⟨rfl,Nat.le_refl _,[],(List.append_nil _).symm⟩|refine ⟨?_,?_⟩));first|done|fail)) (hd:distinct (sameH vw)=true:=by exact rfl) (hcl:clM vw mem0=true:=by exact rfl) (hok:okM1 mem0.length mem0=true:=by exact rfl) (hca:clA vw args0=true:=by exact rfl) (hao:okA1 mem0.length args0=true:=by exact rfl)
 (hcv:clV vw v0=true:=by exact rfl) (hcm:∀ y,clM vw (M y)=true:=by exact fun _=>rfl) (hrd:∀ y,rdSame (M y) mem0:=by (intro _;(repeat' (first|exact .inl rfl|exact .inr rfl|exact trivial|exact rfl|refine ⟨?_,?_⟩));first|done|fail)) (hkp:∀ y,keepV l vw mem0 (M y):=by (intro _;(repeat' (first|exact .inl rfl|exact .inr rfl|exact trivial|refine ⟨?_,?_⟩));first|done|fail)) (hvl:∀ y,vw.length≤(M y).length:=by exact fun _=>Nat.le_of_ble_eq_true rfl) (hk:headW l k=true:=by exact rfl):Good E R ⟨.call f args dst::k,tm,mem⟩:=zwr vw l ht hargs hv hd hcl hok hca hao hcv hcm hrd hkp hvl hk h
end
end Eng
namespace Eng
section
variable {E:Env} {R:Ending→World→Prop}
theorem zdi {k:List It} {tm:PT} {mem:List MB} (h:Nat) (ks:List Nat) {ι:Type} {m:ι→List MB} (x:ι) (hk:headW (h::ks) k=true) (hlen:(m x).length=ks.length+1) (hd:distinct (h::ks)=true) (hat:atL (pi (h::ks)) mem 0 (m x)) (hok:∀ b∈m x,b.ok (m x).length)
 (hg:∀ W,Good E R ⟨k,tm,setAt (kills mem ks) h (.obj (packO m W))⟩):Good E R ⟨k,tm,mem⟩:=by
 intro ρ w a hρ hl H htm ha hit;dsimp only at hl H htm ha hit
 have get:=fun k b hb=>zpj (m x) 0 hat k b hb
 simp only [Nat.zero_add] at get
 have hlt:h<mem.length:=by
  cases hx:m x with
  | nil=>rw [hx] at hlen;simp at hlen
  | cons b r=>exact (List.getElem?_eq_some_iff.1 (get 0 b (by rw [hx];rfl)).1).1
 obtain ⟨W,hW⟩:∃ W:Nat→Prop,W=fun i=>∃ (j:Nat) (b:MB),(m x)[j]?=some b∧b.wf (ρ (pi (h::ks) j)) i:=⟨_,rfl⟩
 have hlw:(setAt (kills mem ks) h (.obj (packO m W))).length=mem.length:=by simp [zaf,zea]
 have hpi:∀ i j,i<(m x).length→j<(m x).length→pi (h::ks) i=pi (h::ks) j→i=j:=fun i j hi hj e=>by
  have i1:=zg7 (l:=h::ks) (h:=i) (by simp;omega)
  have i2:=zg7 (l:=h::ks) (h:=j) (by simp;omega)
  rw [e] at i1;exact zc6 hd i1 i2
 have hobj:packA (m x) W (ρ h) w:=by
  refine ⟨fun b hb=>⟨?_,hok b hb⟩,ρ ∘ pi (h::ks),rfl,fun i b hb=>?_,fun i=>by rw [hW];rfl,fun i j b c hb hc hne q hw hw'=>?_⟩
  ·obtain ⟨i,hi⟩:=List.getElem?_of_mem hb
   exact (get i b hi).2
  ·exact zg3 (zej _) (hok b (List.mem_of_getElem? hb)) (H.blk _ _ (get i b hb).1)
  ·have i1:=(List.getElem?_eq_some_iff.1 hb).1
   have i2:=(List.getElem?_eq_some_iff.1 hc).1
   exact (H.apt _ _ _ _ (get i b hb).1 (get j c hc).1 (fun e=>hne (hpi i j i1 i2 e)) q (zbt.2 hw)).1 (zbt.2 hw')
 have split:∀ (k:Nat) (b:MB),(setAt (kills mem ks) h (.obj (packO m W)))[k]?=some b→(k=h∧b=.obj (packO m W))∨(k≠h∧k∈ks∧b=.dead)∨(k ∉ h::ks∧mem[k]?=some b):=fun k b hb=>by
  by_cases e:k=h
  ·subst e
   rw [zaf,List.getElem?_set_self (by rw [zea];exact hlt)] at hb
   exact .inl ⟨rfl,(Option.some.inj hb).symm⟩
  ·rw [zaf,List.getElem?_set_ne (Ne.symm e)] at hb
   rcases zis k b hb with ⟨h1,h2⟩|⟨h1,h2⟩
   ·exact .inr (.inl ⟨e,h1,h2⟩)
   ·exact .inr (.inr ⟨by simp [e,h1],h2⟩)
 refine zfd (h::ks) hk (fun j hj hn=>?_) hρ hl (by omega) (fun _ _=>rfl) ?_ (htm.mono (by omega)) ha hit (hg W)
 ·obtain ⟨b,hb⟩:∃ b,(setAt (kills mem ks) h (.obj (packO m W)))[j]?=some b:=⟨_,List.getElem?_eq_getElem (by omega)⟩
  rw [hb]
  rcases split j b hb with ⟨h8,_⟩|⟨_,h8,_⟩|⟨_,h8⟩
  ·rw [zds.2 (by simp [h8])] at hn;cases hn
  ·rw [zds.2 (by simp [h8])] at hn;cases hn
  ·exact h8.symm
 refine H.move (fun k=>k∈h::ks) (fun k=>k∈h::ks) id W (fun i hi=>?_) (Gr.refl _ _) (fun _ _ _ _ e=>e) (fun b hbm=>?_) (fun k b hkb hn=>?_) (fun k b hkb hn=>?_) (fun k j b c hk hj hkb hjc hne' i hw=>?_)
 ·rw [hW] at hi
  obtain ⟨j,b,hb,hw⟩:=hi
  have i1:=(List.getElem?_eq_some_iff.1 hb).1
  exact .inl ⟨_,_,List.mem_of_getElem? (zg7 (l:=h::ks) (h:=j) (by simp;omega)),(get j b hb).1,zbt.2 hw⟩
 ·obtain ⟨k,hkb⟩:=List.getElem?_of_mem hbm
  rw [hlw]
  rcases split k b hkb with ⟨_,rfl⟩|⟨_,_,rfl⟩|⟨_,h2⟩
  ·trivial
  ·trivial
  ·exact H.ok b (List.mem_of_getElem? h2)
 ·rcases split k b hkb with ⟨rfl,_⟩|⟨_,h1,_⟩|⟨h1,h2⟩
  ·exact absurd (by simp) hn
  ·exact absurd (by simp [h1]) hn
  ·exact ⟨hn,b,h2,fun _ h=>h,fun _ h=>h,fun h=>h⟩
 ·rcases split k b hkb with ⟨rfl,rfl⟩|⟨_,h1,rfl⟩|⟨h1,_⟩
  ·exact ⟨⟨x,hobj⟩,fun i hi=>hi,fun i hi=>(by cases hi.1)⟩
  ·exact ⟨trivial,fun i hi=>(by cases hi.1),fun i hi=>(by cases hi.1)⟩
  ·exact absurd hn h1
 ·rcases split k b hkb with ⟨rfl,rfl⟩|⟨_,_,rfl⟩|⟨h1,_⟩
  ·rcases split j c hjc with ⟨rfl,rfl⟩|⟨_,_,rfl⟩|⟨h1,_⟩
   ·exact absurd rfl hne'
   ·exact ⟨fun h=>(by cases h.1),fun h=>(by cases h.1)⟩
   ·exact absurd hj h1
  ·cases hw.1
  ·exact absurd hk h1
theorem zr5 (e:Nat) {o:AO} {X:List AO} {k:List It} {tm:PT} {mem:List MB} (hb:nth mem e=some (.obj (poolO (o::X)))) (hk:headW [e] k=true)
 (hg:Good E R ⟨k,tm,setAt mem e (.obj (poolO X))⟩):Good E R ⟨k,tm,mem⟩ :=
 qcj e (ι:=Unit) (fun _=>.obj (poolO X)) hb (fun ρ p w h=>by
  obtain ⟨⟨ps,hps⟩,hd⟩:=h
  refine ⟨(),⟨⟨ps.tail,fun i o' ho=>?_⟩,fun i j o1 o2 h1 h2 hne=>hd (i+1) (j+1) o1 o2 (by simpa using h1) (by simpa using h2) (by omega)⟩,fun i ⟨o',ho',hi⟩=>⟨o',List.mem_cons_of_mem _ ho',hi⟩,rfl,fun _=>trivial⟩
  obtain ⟨p,h1,h2⟩:=hps (i+1) o' (by simpa using ho)
  exact ⟨p,by simpa using h1,h2⟩) hk fun _=>hg
theorem zf0 (e i:Nat) {L:List AO} {b:MB} {a:Nat} {f:FuncId} {args:List SV} (rest:List SV) {dst:Option Tmp} {k:List It} {tm:PT} {mem:List MB} {v:SV} (hb:nth mem e=some (.obj (poolO L))) (hi:L[i]?=some (atO b (a,0)))
 (ht:TriP E.P f (.one (.ptr 0 0 0)::rest) [b] v) (hargs:args=.one (.val (.pointer (some ⟨a,0,none⟩)))::rest) (hr:mapVs (vwS [.same mem.length] (mem.length+1)) rest=rest) (hr2:clA [.same mem.length] rest=true) (hr3:okA1 0 rest=true) (hv:mapV (vwS [.same mem.length] (mem.length+1)) v=v) (hv2:clV [.same mem.length] v=true) (hv3:okV1 0 v=true)
 (hg:Good E R ⟨k,putE tm dst v,mem⟩):Good E R ⟨.call f args dst::k,tm,mem⟩:=by
 rw [zak] at hb;intro ρ w q hρ hl H htm ha hit;dsimp only at hl H htm ha hit;subst hargs
 have helt:=(List.getElem?_eq_some_iff.1 hb).1
 have hil:=(List.getElem?_eq_some_iff.1 hi).1
 obtain ⟨ρ',hag,hK,H'⟩:=zmy H hb hi (b:=.obj (atO b (a,0))) (K:=fun p=>p=(a,0)) (fun p w h=>⟨fun _=>h,fun _ h=>h,rfl,fun _=>trivial,h.1⟩)
 obtain ⟨M,hM⟩:∃ M,M=mem.set e (.obj (poolO (L.set i voidO)))++[.obj (atO b (a,0))]:=⟨_,rfl⟩;rw [←hM] at H'
 have hlen:M.length=mem.length+1:=by simp [hM]
 have hgt:M[mem.length]?=some (.obj (atO b (a,0))):=by simp [hM]
 have hge:M[e]?=some (.obj (poolO (L.set i voidO))):=by rw [hM,List.getElem?_append_left (by simpa using helt),List.getElem?_set_self helt]
 have hvw:views M [.same mem.length] M.length [.same mem.length] [.obj (atO b (a,0))]:=⟨by rw [zak,hgt];rfl,trivial⟩
 have hao:∀ x∈(SV.one (.ptr 0 0 0)::rest),x.ok [MB.obj (atO b (a,0))].length:=fun x hx=>by
  rcases List.mem_cons.1 hx with rfl|hx
  ·show 0<_;simp
  ·exact (zbc hr3 x hx).mono (Nat.zero_le _)
 have hca:clA [.same mem.length] (SV.one (.ptr 0 0 0)::rest)=true:=by
  show (bif clS [.same mem.length] (.ptr 0 0 0) then clA [.same mem.length] rest else false)=true
  rw [hr2];rfl
 have hF:=zcs [.same mem.length] (qbm ht (a,0)) hvw rfl rfl (zaj rfl) hca hao (fun v' m hq=>by obtain ⟨rfl,rfl⟩:=hq;exact ⟨hv2,rfl,zdp _⟩) E.w0 E.own ρ' w H'
 rw [hlen] at hF
 have hmap:(mapVs (vwS [.same mem.length] (mem.length+1)) (.one (.ptr 0 0 0)::rest)).map (concV ρ')=(SV.one (.val (.pointer (some ⟨a,0,none⟩)))::rest).map (concV ρ):=by
  show (_::mapVs _ rest).map (concV ρ')=_
  rw [hr,List.map_cons,List.map_cons]
  refine congr (congrArg _ ?_) (List.map_congr_left fun x hx=>zaz (n:=0) (fun h hh=>absurd hh (Nat.not_lt_zero h)) (zbc hr3 x hx))
  show Value.pointer (some ⟨(ρ' mem.length).1,(ρ' mem.length).2+(0+0),none⟩)=_
  rw [hK];rfl
 rw [hmap] at hF;refine ⟨ht.1,hF.mono ?_⟩
 rintro x w' ⟨v',m,ρ'',rfl,⟨rfl,rfl⟩,hvok,hle,hag2,H''⟩
 refine ⟨_,rfl,?_⟩;rw [hv];rw [←hlen,zfe hvw] at H''
 have Hg:=zmz H'' hge hgt (by omega) (by rw [List.getElem?_set_self hil])
 have hset:(M.set e (.obj (poolO ((L.set i voidO).set i (atO b (a,0)))))).set mem.length .dead=mem++[.dead]:=by
  have e1:(L.set i voidO).set i (atO b (a,0))=L:=by
   refine List.ext_getElem? fun j=>?_
   by_cases h:i=j
   ·subst h;rw [List.getElem?_set_self (by simpa using hil),hi]
   ·rw [List.getElem?_set_ne h,List.getElem?_set_ne h]
  rw [e1,hM]
  refine List.ext_getElem? fun j=>?_
  clear Hg H'' hF hmap
  rcases Nat.lt_trichotomy j mem.length with h|h|h
  ·rw [List.getElem?_set_ne (by omega),List.getElem?_append_left h]
   by_cases h2:e=j
   ·subst h2;rw [List.getElem?_set_self (by simp;omega),hb]
   ·rw [List.getElem?_set_ne h2,List.getElem?_append_left (by simpa using h),List.getElem?_set_ne h2]
  ·subst h;rw [List.getElem?_set_self (by simp)];simp
  ·rw [List.getElem?_eq_none (by simp only [List.length_append,List.length_set,List.length_cons,List.length_nil];omega),List.getElem?_eq_none (by simp only [List.length_append,List.length_set,List.length_cons,List.length_nil];omega)]
 rw [hset] at Hg
 have Hg':=Hg.take H.ok
 have hag3:∀ h,h<mem.length→ρ h=ρ'' h:=fun h hh=>by rw [hag h hh,hag2 h (by omega)]
 have:=hg ρ'' w' _ (fun h p hp=>by rw [←hag3 h (Nat.lt_of_lt_of_le (List.getElem?_eq_some_iff.1 hp).1 hl)];exact hρ h p hp) hl Hg' (zck htm ((zb0 hv3).mono (Nat.zero_le _))) (zbz (ha.ext htm hag3) _ _) (tl hit)
 rw [←za4 hag3 fun it hi=>tl hit it hi] at this
 exact this
theorem zgy (e i:Nat) {O:AO} {L:List AO} {o:AO} (b:MB) (K:Nat × Nat→Prop) {f:FuncId} {args:List SV} (args':List SV) {dst:Option Tmp} {k:List It} {tm:PT} {mem:List MB} (ho:O=poolO L) (hb:nth mem e=some (.obj O)) (hi:L[i]?=some o)
 (hΦ:∀ p w,o.Φ p w→(∀ ρ,BlkAt ρ w p b)∧(∀ i,b.wf p i→o.W i)∧b.rd=false∧(∀ n,b.ok n)∧K p) (hk:headW [e] k=true) (hok:okA1 (mem.length+1) args'=true) (hargs:∀ ρ:Nat→Nat × Nat,K (ρ mem.length)→args.map (concV ρ)=args'.map (concV ρ))
 (hg:∀ O':AO,O'=poolO (L.set i voidO)→Good E R ⟨.call f args' dst::k,tm,setAt mem e (.obj O')++[b]⟩):Good E R ⟨.call f args dst::k,tm,mem⟩:=by
 subst ho;exact zws e i b K args' hb hi hΦ hk hok hargs (hg _ rfl)
theorem zb5 (e i:Nat) {O:AO} {L:List AO} {B:MB} {a:Nat} {f:FuncId} {args:List SV} (args':List SV) {dst:Option Tmp} {k:List It} {tm:PT} {mem:List MB} (ho:O=poolO L) (hb:nth mem e=some (.obj O)) (hi:L[i]?=some (atO B (a,0)))
 (hk:headW [e] k=true) (hok:okA1 (mem.length+1) args'=true) (hargs:∀ ρ:Nat→Nat × Nat,ρ mem.length=(a,0)→args.map (concV ρ)=args'.map (concV ρ))
 (hg:∀ O':AO,O'=poolO (L.set i voidO)→Good E R ⟨.call f args' dst::k,tm,setAt mem e (.obj O')++[.obj (atO B (a,0))]⟩):Good E R ⟨.call f args dst::k,tm,mem⟩ :=
 zgy e i (.obj (atO B (a,0))) (fun p=>p=(a,0)) args' ho hb hi (fun _ _ h=>⟨fun _=>h,fun _ h=>h,rfl,fun _=>trivial,h.1⟩) hk hok hargs hg
theorem zb9 (e t i:Nat) {O:AO} {L:List AO} {o:AO} {k:List It} {tm:PT} {mem:List MB} (ho:O=poolO L) (hb:nth mem e=some (.obj O)) (ht:nth mem t=some (.obj o)) (hne:Nat.beq e t=false) (hi:L[i]?=some voidO) (hk:headW [e,t] k=true)
 (hg:∀ O':AO,O'=poolO (L.set i o)→Good E R ⟨k,tm,setAt (setAt mem e (.obj O')) t .dead⟩):Good E R ⟨k,tm,mem⟩:=by
 subst ho;exact zw2 e t i hb ht hne hi hk (hg _ rfl)
theorem zj7 (e i:Nat) {O:AO} {L:List AO} {b:MB} {a:Nat} {f:FuncId} {args:List SV} (rest:List SV) {dst:Option Tmp} {k:List It} {tm:PT} {mem:List MB} {v:SV} (ho:O=poolO L) (hb:nth mem e=some (.obj O)) (hi:L[i]?=some (atO b (a,0)))
 (ht:TriP E.P f (.one (.ptr 0 0 0)::rest) [b] v) (hargs:args=.one (.val (.pointer (some ⟨a,0,none⟩)))::rest) (hr:mapVs (vwS [.same mem.length] (mem.length+1)) rest=rest) (hr2:clA [.same mem.length] rest=true) (hr3:okA1 0 rest=true) (hv:mapV (vwS [.same mem.length] (mem.length+1)) v=v) (hv2:clV [.same mem.length] v=true) (hv3:okV1 0 v=true)
 (hg:Good E R ⟨k,putE tm dst v,mem⟩):Good E R ⟨.call f args dst::k,tm,mem⟩:=by
 subst ho;exact zf0 e i rest hb hi ht hargs hr hr2 hr3 hv hv2 hv3 hg
theorem zev (e:Nat) {O o:AO} {X:List AO} {k:List It} {tm:PT} {mem:List MB} (ho:O=poolO (o::X)) (hb:nth mem e=some (.obj O)) (hk:headW [e] k=true)
 (hg:∀ O':AO,O'=poolO X→Good E R ⟨k,tm,setAt mem e (.obj O')⟩):Good E R ⟨k,tm,mem⟩:=by
 subst ho;exact zr5 e hb hk (hg _ rfl)
theorem zp6 {L:List AO} {i:Nat} {o:AO} (h:L[i]?=some o):(L.set i voidO).set i o=L:=by
 refine List.ext_getElem? fun j=>?_
 by_cases h2:i=j
 ·subst h2;rw [List.getElem?_set_self (by simpa using (List.getElem?_eq_some_iff.1 h).1),h]
 ·rw [List.getElem?_set_ne h2,List.getElem?_set_ne h2]
theorem zdn {L:List AO} {i:Nat} {o:AO} (h:L[i]?=some o):(L.set i voidO)[i]?=some voidO:=by
 rw [List.getElem?_set_self (List.getElem?_eq_some_iff.1 h).1]
end
theorem zfh {P:Program} {f:FuncId} {args:List SV} {ι:Type} {m:ι→List MB} {W:Nat→Prop} {n t z:Nat} {l:List Value} (hgo:Goes P f) (hne:∀ x,m x≠[]) (ha:okA1 1 args=true) (h:∀ x,TriM P f args (m x) (.one (.gsl (m x).length n)) (m x++[.grow t z n l])):TriM P f args [.obj (packO m W)] (.one (.gsl 1 n)) [.obj (packO m W),.grow t z n l]:=by
 refine ⟨hgo,fun w0 own ρ w H _=>?_⟩
 obtain ⟨x,h0,ρx,h1,h2,h3,h4⟩:=H.blk 0 _ rfl
 have hlen:1≤(m x).length:=by
  cases hm:m x with
  | nil=>exact absurd hm (hne x)
  | cons b r=>simp
 have Hx:Sat w0 own ρx (m x) w:=⟨H.gr,h2,fun b hb=>(h0 b hb).2,fun j b hb=>⟨fun i hi=>(H.fre 0 _ rfl).1 i ((h3 i).2 ⟨j,b,hb,hi⟩),fun i hi=>by have:=hi.1;rw [(h0 b (List.mem_of_getElem? hb)).1] at this;cases this⟩,
  fun j k b c hb hc hne i hw=>⟨fun hc'=>h4 j k b c hb hc hne i hw hc',fun hc'=>by have:=hc'.1;rw [(h0 c (List.mem_of_getElem? hc)).1] at this;cases this⟩⟩
 have hag:∀ j,j<1→ρx j=ρ j:=fun j hj=>by obtain rfl:j=0:=(by omega);exact h1
 have hargs:args.map (concV ρ)=args.map (concV ρx):=List.map_congr_left fun u hu=>(zaz hag (zbc ha u hu)).symm
 rw [hargs]
 refine ((h x).2 w0 own ρx w Hx fun u hu=>(zbc ha u hu).mono hlen).mono ?_
 rintro e w' ⟨v',mem',ρ',rfl,⟨rfl,rfl⟩,_,_,hag',H'⟩
 have e0:ρ' 0=ρ 0:=by rw [←hag' 0 (by omega),h1]
 have up:∀ (j:Nat) (b:MB),(m x)[j]?=some b→(m x++[MB.grow t z n l])[j]?=some b:=fun j b hb=>by rw [List.getElem?_append_left (List.getElem?_eq_some_iff.1 hb).1];exact hb
 have top:(m x++[MB.grow t z n l])[(m x).length]?=some (.grow t z n l):=by simp
 let ρ2:Nat→Nat × Nat:=fun j=>if j=0 then ρ 0 else ρ' (m x).length
 have hW:∀ i,W i↔∃ (j:Nat) (b:MB),(m x)[j]?=some b∧b.wf (ρ' j) i:=fun i=>by
  rw [h3 i]
  constructor
  ·rintro ⟨j,b,hb,hw⟩
   exact ⟨j,b,hb,by rw [←hag' j (List.getElem?_eq_some_iff.1 hb).1];exact hw⟩
  ·rintro ⟨j,b,hb,hw⟩
   exact ⟨j,b,hb,by rw [hag' j (List.getElem?_eq_some_iff.1 hb).1];exact hw⟩
 have get:∀ (j:Nat) (b:MB),([MB.obj (packO m W),.grow t z n l]:List MB)[j]?=some b→(j=0∧b=.obj (packO m W))∨(j=1∧b=.grow t z n l):=fun j b hb=>by
  rcases j with _|_|j
  ·exact .inl ⟨rfl,by simpa using hb.symm⟩
  ·exact .inr ⟨rfl,by simpa using hb.symm⟩
  ·simp at hb
 have ap:∀ i,W i→¬ (MB.grow t z n l).wf (ρ' (m x).length) i:=fun i hi hg=>by
  obtain ⟨j,b,hb,hw⟩:=(hW i).1 hi;exact (H'.apt j (m x).length b _ (up j b hb) top (Nat.ne_of_lt (List.getElem?_eq_some_iff.1 hb).1) i hw).1 hg
 refine ⟨_,_,ρ2,rfl,⟨rfl,rfl⟩,(by show 1<_;simp),(by simp),fun j hj=>?_,H'.gr,fun j b hb=>?_,fun b hb=>?_,fun j b hb=>?_,fun j k b c hb hc hne i hw=>?_⟩
 ·obtain rfl:j=0:=by simpa using hj
  rfl
 ·rcases get j b hb with ⟨rfl,rfl⟩|⟨rfl,rfl⟩
  ·exact ⟨x,h0,ρ',e0,fun h b hb=>H'.blk h b (up h b hb),hW,fun j k b c hb hc hne i hw=>(H'.apt j k b c (up j b hb) (up k c hc) hne i hw).1⟩
  ·exact zln (b:=.grow t z n l) trivial (H'.blk _ _ top)
 ·obtain ⟨j,hj⟩:=List.getElem?_of_mem hb
  rcases get j b hj with ⟨rfl,rfl⟩|⟨rfl,rfl⟩<;>trivial
 ·rcases get j b hb with ⟨rfl,rfl⟩|⟨rfl,rfl⟩
  ·exact ⟨(H.fre 0 _ rfl).1,fun i hi=>by cases hi.1⟩
  ·exact H'.fre _ _ top
 ·rcases get j b hb with ⟨rfl,rfl⟩|⟨rfl,rfl⟩<;>rcases get k c hc with ⟨rfl,rfl⟩|⟨rfl,rfl⟩
  ·exact absurd rfl hne
  ·exact ⟨ap i hw,fun h=>by cases h.1⟩
  ·exact ⟨fun h=>ap i h hw,fun h=>by cases h.1⟩
  ·exact absurd rfl hne
end Eng
end Go.Proofs.YtpigpajgjdcagaaGreat
