/- Parts. -/
import Derived.Test.YtpigpajgjdcagaaGreatUw1
import Derived.Test.YtpigpajgjdcagaaGreatUh
set_option linter.unusedSimpArgs false
set_option linter.unusedVariables false
set_option maxRecDepth 100000
set_option maxHeartbeats 60000000
namespace Go.Proofs.YtpigpajgjdcagaaGreat
open Go.RowKit Eng
theorem zqp {a b k:Nat} (ha:a<2 ^ k) (hb:a+b * 2 ^ k<18446744073709551616):std.bor .u64 (a:Int) ((b * 2 ^ k:Nat):Int)=((a+b * 2 ^ k:Nat):Int):=by
 have e:std.bor .u64 (a:Int) ((b * 2 ^ k:Nat):Int)=IntKind.wrap .u64 ((BitVec.ofInt 64 (a:Int) ||| BitVec.ofInt 64 ((b * 2 ^ k:Nat):Int)).toNat:Int):=rfl
 rw [e,BitVec.toNat_or,ze9 (by omega),ze9 (by omega)]
 have h1:a ||| b * 2 ^ k=a+b * 2 ^ k:=by
  rw [Nat.or_comm,Nat.mul_comm,←Nat.two_pow_add_eq_or_of_lt ha,Nat.add_comm]
 rw [h1,wrapU (by omega) (by omega)]
theorem zvo {a k:Nat} (hk:k≤64) (h:a * 2 ^ k<18446744073709551616):std.shl .u64 (a:Int) (k:Int)=((a * 2 ^ k:Nat):Int):=by
 have e:std.shl .u64 (a:Int) (k:Int)=IntKind.wrap .u64 ((a:Int) * 2 ^ (min (k:Int).toNat 64)):=rfl
 rw [e];simp only [Int.toNat_natCast,Nat.min_eq_left hk]
 rw [show (a:Int) * 2 ^ k=((a * 2 ^ k:Nat):Int) by simp,wrapU (by omega) (by omega)]
theorem band127 {x:Nat} (h:x<256):std.band .u8 (x:Int) 127=((x % 128:Nat):Int):=by
 have e:std.band .u8 (x:Int) 127=IntKind.wrap .u8 ((BitVec.ofInt 8 (x:Int) &&& BitVec.ofInt 8 127).toNat:Int):=rfl
 have e2:(BitVec.ofInt 8 127).toNat=127:=by decide
 rw [e,BitVec.toNat_and,zg5 h,e2]
 have h1:x &&& 127=x % 128:=Nat.and_two_pow_sub_one_eq_mod x 7
 rw [h1,wrapB (by omega) (by omega)]
theorem zey {x:Nat} (h:x<18446744073709551616):std.conv .u64 (x:Int)=(x:Int):=wrapU (by omega) (by omega)
theorem band1 {u:Nat} (h:u<18446744073709551616):std.band .u64 (u:Int) 1=((u % 2:Nat):Int):=by
 have e:std.band .u64 (u:Int) 1=IntKind.wrap .u64 ((BitVec.ofInt 64 (u:Int) &&& BitVec.ofInt 64 1).toNat:Int):=rfl
 have e2:(BitVec.ofInt 64 1).toNat=1:=by decide
 rw [e,BitVec.toNat_and,ze9 h,e2,Nat.and_one_is_mod,wrapU (by omega) (by omega)]
theorem qbc {u:Nat} (h:u<18446744073709551616) (h1:u % 2=1):std.conv .i64 (std.bxor .u64 18446744073709551615 (std.shr (u:Int) 1 .u64))=zag u:=by
 have e:std.shr (u:Int) 1 .u64=((u / 2:Nat):Int):=zkr u 1 (by decide)
 rw [e,zqo _ (by omega)]
 show IntKind.wrap .i64 _=_
 rw [wrapI',zag,if_pos h1];omega
theorem zxw {u:Nat} (h:u<18446744073709551616) (h1:¬ u % 2=1):std.conv .i64 (std.shr (u:Int) 1 .u64)=zag u:=by
 have e:std.shr (u:Int) 1 .u64=((u / 2:Nat):Int):=zkr u 1 (by decide)
 rw [e]
 show IntKind.wrap .i64 _=_
 rw [wrapI',zag,if_neg h1];omega
def accP (B:List UInt8):Nat→Nat
 | 0=>0
 | k+1=>accP B k+(B.getD k 0).toNat % 128 * 128 ^ k
theorem zlo (B:List UInt8):∀ k,accP B k<128 ^ k
 | 0=>by simp [accP]
 | k + 1 => by
   have:=zlo B k
   have h2:(B.getD k 0).toNat % 128≤127:=by omega
   have h3:=Nat.mul_le_mul_right (128 ^ k) h2
   rw [accP,Nat.pow_succ];omega
def TkI (B:List UInt8) (k:Nat):Prop:=k≤10∧decU (10-k) (B.drop k) k (accP B k)=decU 10 B 0 0
theorem qds (B:List UInt8):TkI B 0:=⟨by omega,rfl⟩
theorem zni {B:List UInt8} {k:Nat} (hk:k<B.length):B.drop k=B.getD k 0::B.drop (k+1):=by
 rw [List.drop_eq_getElem_cons hk];simp [List.getD_eq_getElem?_getD,hk]
section
variable {B:List UInt8} {v:Int} {K:Nat} (h:takeI B=(0,v,K))
include h
theorem qbn:(decU 10 B 0 0).1=0∧v=zag (decU 10 B 0 0).2.1∧K=(decU 10 B 0 0).2.2:=by
 unfold takeI at h
 split at h
 ·rename_i h0
  simp only [Prod.mk.injEq] at h;exact ⟨h0,h.2.1.symm,h.2.2.symm⟩
 ·rename_i h0
  simp only [Prod.mk.injEq] at h;exact absurd h.1 h0
theorem qam {k:Nat} (hi:TkI B k) (h10:¬ k<10):False:=by
 have:=(qbn h).1
 rw [←hi.2,show 10-k=0 by omega] at this
 simp [decU] at this
theorem zmc {k:Nat} (hi:TkI B k) (h10:k<10):k<B.length:=by
 rcases Nat.lt_or_ge k B.length with h1|h1
 ·exact h1
 ·have:=(qbn h).1
  rw [←hi.2,show 10-k=(9-k)+1 by omega,List.drop_eq_nil_of_le h1] at this
  simp [decU] at this
theorem ztl {k:Nat} (hi:TkI B k) (h10:k<10) (hx:128≤(B.getD k 0).toNat):TkI B (k+1)∧k+1<10:=by
 have hl:=zmc h hi h10
 have h2:=hi.2
 rw [show 10-k=(9-k)+1 by omega,zni hl,decU,if_pos hx] at h2
 have h3:TkI B (k+1):=⟨by omega,by rw [show 10-(k+1)=9-k by omega];exact h2⟩
 refine ⟨h3,?_⟩
 rcases Nat.lt_or_ge (k+1) 10 with h4|h4
 ·exact h4
 ·exact (qam h h3 (by omega)).elim
theorem zh1 {k:Nat} (hi:TkI B k) (h10:k<10) (hx:¬ 128≤(B.getD k 0).toNat):¬ ((0<k∧(B.getD k 0).toNat=0)∨(k=9∧1<(B.getD k 0).toNat))∧v=zag (accP B (k+1))∧K=k+1∧accP B (k+1)<18446744073709551616:=by
 have hl:=zmc h hi h10
 have h2:=hi.2
 obtain ⟨h5,h6,h7⟩:=qbn h
 rw [show 10-k=(9-k)+1 by omega,zni hl,decU,if_neg hx] at h2
 by_cases hc:(0<k∧(B.getD k 0).toNat=0)∨(k=9∧1<(B.getD k 0).toNat)
 ·rw [if_pos hc] at h2
  rw [←h2] at h5;simp at h5
 ·rw [if_neg hc] at h2
  rw [←h2] at h6 h7;refine ⟨hc,h6,h7,?_⟩
  have ha:=zlo B k
  rw [accP]
  by_cases h9:k=9
  ·subst h9
   have:(B.getD 9 0).toNat≤1:=by omega
   have h3:(B.getD 9 0).toNat % 128≤1:=by omega
   have:=Nat.mul_le_mul_right (128 ^ 9) h3
   omega
  ·have h3:(B.getD k 0).toNat % 128≤127:=by omega
   have:=Nat.mul_le_mul_right (128 ^ k) h3
   have h4:128 * 128 ^ k≤128 ^ 9:=by
    rw [←Nat.pow_succ']
    exact Nat.pow_le_pow_right (by decide) (by omega)
   omega
end
theorem zqy (B:List UInt8) {k:Nat} (hk:k<10) (hb:accP B (k+1)<18446744073709551616):std.bor .u64 ((accP B k:Nat):Int) (std.shl .u64 (std.conv .u64 (std.band .u8 ((B.getD k 0).toNat:Int) 127)) (std.conv .u64 (std.mul .i64 7 (Int.ofNat k))))=((accP B (k+1):Nat):Int):=by
 have e1:std.mul .i64 7 (Int.ofNat k)=((7 * k:Nat):Int):=by
  refine (wrap64 ?_ ?_).trans ?_<;>simp<;>omega
 have ep:128 ^ k=2 ^ (7 * k):=by rw [Nat.pow_mul]
 rw [e1,band127 (u8lt B k),zey (by omega),zey (by omega)]
 have hb':accP B k+(B.getD k 0).toNat % 128 * 2 ^ (7 * k)<18446744073709551616:=by rw [←ep];exact hb
 rw [zvo (by omega) (by omega),zqp (by rw [←ep];exact zlo B k) hb',accP,ep]
theorem qak (B:List UInt8) (k:Nat) (h:k+1<10):accP B (k+1)<18446744073709551616:=by
 have:=zlo B (k+1)
 have h4:128 ^ (k+1)≤128 ^ 9:=Nat.pow_le_pow_right (by decide) (by omega)
 omega
theorem zzm {n a b c:Nat} {u v w:SV} {y:Nat × SV} (h:y∈[(a,u),(b,v),(c,w)]) (hu:u.ok n) (hv:v.ok n) (hw:w.ok n):y.2.ok n:=by
 simp at h
 rcases h with rfl|rfl|rfl
 ·exact hu
 ·exact hv
 ·exact hw
theorem zyl (B:List UInt8) (n:Nat) (hn:B.length=n) (hb:n≤65536):TriM Tryz.prog 329 [.one (.val (.slice none 0 0)),.one (.val (.int .i64 8)),.one (.rsl 0 n)] ([.rs n (bV B)]) (.one (.gsl 1 (frameB sumN B).length)) [.rs n (bV B),.grow 5 1 (frameB sumN B).length (bV (frameB sumN B))]:=by
 obtain ⟨A,hA,FG⟩:=aF;obtain ⟨V,hV⟩:=nm (bV B);obtain ⟨K,hK⟩:=nm ((frameB sumN B).length);obtain ⟨W,hW⟩:=nm (bV (frameB sumN B));obtain ⟨s,hs⟩:=nm (sumN B);obtain ⟨L0,hL0⟩:=nm ((encI (n:Int)).length)
 obtain ⟨NN,hNN⟩:=nm (fun i:Nat=>L0+i)
 obtain ⟨U,hU⟩:=nm (fun i:Nat=>((s / 256 ^ i:Nat):Int))
 obtain ⟨P,hP⟩:=nm (fun i:Nat=>bV (encI (n:Int)++le8 i s))
 simp only [←hV,←hK,←hW]
 have l1:∀ i:Nat,A.lt (Int.ofNat i) 8=true→i+1≤8:=by rw [hA];intro i;simp [std];omega
 have l2:∀ i:Nat,i≤8→A.add .i64 (Int.ofNat i) 1=Int.ofNat (i+1):=by rw [hA];intro i h;exact (wrap64 (by simp;omega) (by simp;omega)).trans (by simp)
 have l4:∀ i:Nat,A.lt (Int.ofNat i) 8=false→8≤i:=by rw [hA];intro i;simp [std];omega
 have g0:A.lt 65536 (A.len n)=false:=by rw [hA];simp [std];omega
 have g1:∀ i:Nat,A.app (P i) [.int .u8 (A.conv .u8 (U i))]=P (i+1):=by
  rw [hA,hP,hU];intro i
  have e:=znn (s / 256 ^ i)
  dsimp only;rw [e]
  show bV _++_=_
  rw [zqd,←List.append_assoc,zki (encI (n:Int)++le8 i s),zxr]
  congr 4
  simp
 have g2:∀ i:Nat,A.shr (U i) 8 .u64=U (i+1):=by
  rw [hA,hU];intro i;exact (zkr _ 8 (by decide)).trans (by show ((s / 256 ^ i / 256:Nat):Int)=((s / 256 ^ (i+1):Nat):Int);rw [Nat.div_div_eq_div_mul,←Nat.pow_succ])
 have hl10:L0≤10:=by rw [hL0];exact (zf6 9 _).2
 have g3:∀ i:Nat,i≤8→A.fits (NN i) 1=true:=by rw [hA,hNN];intro i h;simp [std];omega
 have g4:∀ i:Nat,A.addn (NN i) 1=NN (i+1):=by rw [hA,hNN];intro i;rfl
 have g5:∀ i:Nat,i≤8→A.fits (NN i) n=true:=by rw [hA,hNN];intro i h;simp [std];omega
 have g6:A.rows V 0 n 1=some V:=by rw [hA,hV];exact zia B hn
 have e1:A.addn (NN 8) n=K:=by rw [hA,hNN,hK];show L0+8+n=_;simp [frameB,zgt,hL0,hn];omega
 have e2:A.app (P 8) V=W:=by rw [hA,hP,hV,hW];show bV _++bV _=_;rw [←zki,frameB,hn,←hs]
 have u0:((s:Nat):Int)=U 0:=by rw [hU];simp
 have tw:=zpo [] 0 rfl (n:Int) (by omega) (by omega) (by omega)
 rw [Nat.zero_add,←hL0,show L0=NN 0 by rw [hNN];rfl,show bV ([]++encI (n:Int))=P 0 by rw [hP];simp [le8],show bV []=[] by rfl,show (n:Int)=A.len n by rw [hA];rfl] at tw
 have ts:=zss B n hn (by omega)
 rw [←zvj,←hs,u0,←hV] at ts
 have f0:A.le 0 8=true:=by rw [hA];rfl
 change Hid _ at hA hV hK hW hs hL0 hNN hU hP u0
 refine zad (D:=ords329) (fnO ztw Tryz.func329) 31 (fun w0 own ps R hpl hR kE=>?_)
 refine kN ?_
 repeat' (conv=>arg 3;try cbv);first
  | ((with_reducible refine kC ?_);(first|refine nM [.rd (.val (.slice none 0 0))] tw ?_|refine nP [.same 0] ts ?_))
  | (((with_reducible refine kL ?_);refine zas 0 (α:={ i:Nat // i≤8 }) [6,9,10,11,12,13,14,15,16,17,18,19,20,22,23,24,25,26,27,28,29,30] (fun x=>[(7,.one (.gsl 1 (NN x.1))),(8,.one (.val (.int .u64 (U x.1)))),(21,.one (.val (.int .i64 (Int.ofNat x.1))))]) (fun x=>[.rs n V,.grow 5 1 (NN x.1) (P x.1)]) (fun x=>8-x.1) ⟨0,Nat.zero_le _⟩ (by dsimp only<;>cbv<;>try simp) (by dsimp only<;>rfl) (fun x=>rfl) (fun x y hy=>zzm hy (Nat.lt_succ_self 1) trivial trivial) rfl (fun x L' hL1 hL2=>?_);obtain ⟨i,hi⟩:=x;dsimp only;refine kN ?_))
  | (((with_reducible refine kA ?_);have h9:=l1 i (by assumption);have hst:=l2 i hi;refine zal (l:=[0,3]) ⟨rfl,rfl,rfl⟩ hL2 ⟨i+1,h9⟩ (show 8-(i+1)<8-i by omega) rfl rfl (by rw [hpl];rfl) (zaj (n:=2) rfl) (zav (by cbv<;>trivial)) ⟨(by first|exact .inl rfl|exact .inr rfl),(by first|exact .inl rfl|exact .inr rfl),trivial⟩ (by dsimp only<;>(try simp only [hst])<;>cbv<;>try simp)))
  | ((with_reducible refine kG ?_);(have hii:i=8:=Nat.le_antisymm hi (l4 i (by assumption)));subst hii;(try simp only [e1,e2]);refine kR1 hR [0,2] ⟨rfl,rfl⟩)
  | simp only [*]
  | (split<;>(rename_i hsp;try simp only [FG] at hsp))
theorem zx4  (u:Nat) (hu:u<18446744073709551616):TriP Tryz.prog 347 [.one (.val (.int .u64 (u:Int)))] ([]) (vI (zag u)):=by
 obtain ⟨A,hA,FG⟩:=aF;obtain ⟨z,hz⟩:=nm (zag u);obtain ⟨U,hU⟩:=nm (((u:Nat):Int));simp only [←hz,←hU]
 have f1:A.eq (A.band .u64 U 1) 1=true→A.conv .i64 (A.bxor .u64 18446744073709551615 (A.shr U 1 .u64))=z:=by
  rw [hA,hU,hz,band1 hu];intro h;exact qbc hu (by have h1:((u % 2:Nat):Int)=1:=(by simpa [std] using h);omega)
 have f2:A.eq (A.band .u64 U 1) 1=false→A.conv .i64 (A.shr U 1 .u64)=z:=by
  rw [hA,hU,hz,band1 hu];intro h;exact zxw hu (by have h1:¬ ((u % 2:Nat):Int)=1:=(by simpa [std] using h);omega)
 have f0:A.le 0 1=true:=by rw [hA];rfl
 change Hid _ at hA hz hU
 refine zad (D:=ords347) (fnO ztq Tryz.func347) 12 (fun w0 own ps R hpl hR kE=>?_)
 refine kN ?_
 repeat' (conv=>arg 3;try cbv);first
  | ((with_reducible refine kG ?_);refine kO1 hR 0 ⟨?_,by rfl⟩)
  | simp only [*]
  | (split<;>(rename_i hsp;try simp only [FG] at hsp))
 all_goals (first|rfl|exact congrArg vI (f1 (by assumption))|exact congrArg vI (f2 (by assumption)))
namespace Eng
section
variable {R:Ending→World→Prop} {w0:World} {own:List Nat} {ps:List (Nat × Nat)} {P:Program} {T:List (TypeId × TI)} {D:Ords} {fn:Func} {L:Nat→Act→World→Prop} {n:Nat} {Q:SV→List MB→Prop}
theorem zpq (hR:Ends w0 own ps n Q R) (hE:Env.Ok ⟨P,T,D,fn,w0,own,ps,L⟩) (m:Nat) {r s t:ResultVar} (hr:fn.results=#[r,s,t]) {k:List It} {tm:PT} {mem:List MB} {v u x:SV} (hv:resE std T tm mem r=some v) (hu:resE std T tm mem s=some u) (hx:resE std T tm mem t=some x) (h1:(tvO v).sv=v) (h2:(tvO u).sv=u) (h3:(tvO x).sv=x) (hm:(mem.take m).length=m) (hok:okM1 m (mem.take m)=true) (hle:n≤m) (hvok:okV1 m (.tup [tvO v,tvO u,tvO x])=true) (hQ:Q (.tup [tvO v,tvO u,tvO x]) (mem.take m)):Good ⟨P,T,D,fn,w0,own,ps,L⟩ R ⟨.ret::k,tm,mem⟩ :=
 zx6 hR hE hr hv hu hx h1 h2 h3 (mem.take m) (mem.drop m) (List.take_append_drop m mem).symm (by rw [hm];exact zaj hok) (by rw [hm];exact hle) (by rw [hm];exact zb0 hvok) hQ
end
end Eng
theorem zht (B:List UInt8) (n:Nat) (hn:B.length=n) (hb:n≤1000000) (v:Int) (K:Nat) (h:takeI B=(0,v,K)):TriP Tryz.prog 334 [.one (.rsl 0 n)] ([.rs n (bV B)]) (.tup [.one (.val (.int .i64 v)),.one (.val (.int .i64 (K:Int))),.one (.val (.int .i64 0))]):=by
 obtain ⟨A,hA,FG⟩:=aF;obtain ⟨V,hV⟩:=nm (bV B)
 obtain ⟨X,hX⟩:=nm (fun k:Nat=>((B.getD k 0).toNat:Int))
 obtain ⟨U,hU⟩:=nm (fun k:Nat=>((accP B k:Nat):Int))
 obtain ⟨KI,hKI⟩:=nm (((K:Nat):Int));simp only [←hV,←hKI]
 have l1:∀ i:Nat,A.lt (Int.ofNat i) 10=true→i<10:=by rw [hA];intro i h2;have h9:(i:Int)<10:=of_decide_eq_true h2;omega
 have l2:∀ i:Nat,A.lt (Int.ofNat i) 10=true→A.add .i64 (Int.ofNat i) 1=Int.ofNat (i+1):=by intro i hi;have:=l1 i hi;rw [hA];exact (wrap64 (by simp;omega) (by simp;omega)).trans (by simp)
 have z0:∀ i:Nat,TkI B i→A.lt (Int.ofNat i) 10=false→False:=by rw [hA];intro i h1 h2;exact qam h h1 (by have h9:¬ (i:Int)<10:=of_decide_eq_false h2;omega)
 have g1:∀ i:Nat,TkI B i→A.lt (Int.ofNat i) 10=true→A.eq (Int.ofNat i) (A.len n)=false:=by
  intro i h1 h2;have h3:=zmc h h1 (l1 i h2);rw [hA];simp [std];omega
 have g2:∀ i:Nat,TkI B i→A.lt (Int.ofNat i) 10=true→A.inb (Int.ofNat i) n=true:=by
  intro i h1 h2;have h3:=zmc h h1 (l1 i h2);rw [hA];simp [std];omega
 have g3:∀ i:Nat,TkI B i→A.lt (Int.ofNat i) 10=true→A.get V (A.idx 0 (Int.ofNat i) 1) 0=some (.int .u8 (X i)):=by
  intro i h1 h2;have h3:=zmc h h1 (l1 i h2);rw [hA,hV,hX];exact getB B hn (by omega)
 have g4:∀ i:Nat,TkI B i→A.lt (Int.ofNat i) 10=true→A.le 128 (X i)=true→A.bor .u64 (U i) (A.shl .u64 (A.conv .u64 (A.band .u8 (X i) 127)) (A.conv .u64 (A.mul .i64 7 (Int.ofNat i))))=U (i+1):=by
  rw [hA,hX,hU];intro i h1 h2 h3
  have h4:i<10:=by have h9:(i:Int)<10:=of_decide_eq_true h2;omega
  have h5:=ztl h h1 h4 (by have h6:(128:Int)≤((B.getD i 0).toNat:Int):=of_decide_eq_true h3;omega)
  exact zqy B h4 (qak B i h5.2)
 have g5:∀ i:Nat,TkI B i→A.lt (Int.ofNat i) 10=true→A.le 128 (X i)=true→TkI B (i+1):=by
  rw [hA,hX];intro i h1 h2 h3
  exact (ztl h h1 (by have h9:(i:Int)<10:=of_decide_eq_true h2;omega) (by have h6:(128:Int)≤((B.getD i 0).toNat:Int):=of_decide_eq_true h3;omega)).1
 have g6:∀ i:Nat,TkI B i→A.lt (Int.ofNat i) 10=true→A.le 128 (X i)=false→A.bor .u64 (U i) (A.shl .u64 (A.conv .u64 (A.band .u8 (X i) 127)) (A.conv .u64 (A.mul .i64 7 (Int.ofNat i))))=U (i+1):=by
  rw [hA,hX,hU];intro i h1 h2 h3
  have h4:i<10:=by have h9:(i:Int)<10:=of_decide_eq_true h2;omega
  exact zqy B h4 (zh1 h h1 h4 (by have h6:¬ (128:Int)≤((B.getD i 0).toNat:Int):=of_decide_eq_false h3;omega)).2.2.2
 have g7:∀ i:Nat,TkI B i→A.lt (Int.ofNat i) 10=true→A.le 128 (X i)=false→A.sel (A.lt 0 (Int.ofNat i)) (A.eq (X i) 0) false=false:=by
  rw [hA,hX];intro i h1 h2 h3;have h4:i<10:=by have h9:(i:Int)<10:=of_decide_eq_true h2;omega
  have h5:=(zh1 h h1 h4 (by have h6:¬ (128:Int)≤((B.getD i 0).toNat:Int):=of_decide_eq_false h3;omega)).1
  show (bif decide ((0:Int)<(i:Int)) then (((B.getD i 0).toNat:Int) == 0) else false)=false
  rcases Nat.eq_zero_or_pos i with h7|h7
  ·rw [decide_eq_false (by omega)];rfl
  ·rw [decide_eq_true (by omega)]
   exact beq_false_of_ne (by omega)
 have g9:∀ i:Nat,TkI B i→A.lt (Int.ofNat i) 10=true→A.le 128 (X i)=false→A.eq (Int.ofNat i) 9=true→A.lt 1 (X i)=false:=by
  rw [hA,hX];intro i h1 h2 h3 h8;have h4:i<10:=by have h9:(i:Int)<10:=of_decide_eq_true h2;omega
  have h5:=(zh1 h h1 h4 (by have h6:¬ (128:Int)≤((B.getD i 0).toNat:Int):=of_decide_eq_false h3;omega)).1
  have h9:(i:Int)=9:=eq_of_beq h8
  dsimp only
  exact decide_eq_false (by omega)
 have tn:∀ i:Nat,TkI B i→A.lt (Int.ofNat i) 10=true→A.le 128 (X i)=false→TriP Tryz.prog 347 [.one (.val (.int .u64 (U (i+1))))] [] (vI v):=by
  rw [hA,hX,hU];intro i h1 h2 h3
  have h4:i<10:=by have h9:(i:Int)<10:=of_decide_eq_true h2;omega
  have h5:=zh1 h h1 h4 (by have h6:¬ (128:Int)≤((B.getD i 0).toNat:Int):=of_decide_eq_false h3;omega)
  rw [h5.2.1];exact zx4 _ h5.2.2.2
 have g8:∀ i:Nat,TkI B i→A.lt (Int.ofNat i) 10=true→A.le 128 (X i)=false→KI=Int.ofNat (i+1):=by
  rw [hA,hX,hKI];intro i h1 h2 h3
  have h4:i<10:=by have h9:(i:Int)<10:=of_decide_eq_true h2;omega
  have h5:=zh1 h h1 h4 (by have h6:¬ (128:Int)≤((B.getD i 0).toNat:Int):=of_decide_eq_false h3;omega)
  rw [h5.2.2.1];rfl
 have u0:U 0=0:=by rw [hU];rfl
 have f0:∀ i:Nat,A.le 0 (A.conv .u64 (A.mul .i64 7 (Int.ofNat i)))=true:=by
  rw [hA];intro i;simp [std];rw [wrapU'];omega
 change Hid _ at hA hV hX hU hKI
 refine zad (D:=ords334) (fnO zmf Tryz.func334) 48 (fun w0 own ps R hpl hR kE=>?_)
 refine kN ?_
 repeat' (conv=>arg 3;try cbv);first
  | (((with_reducible refine kL ?_);refine zau 0 (α:={ i:Nat // TkI B i }) [2,3,4,6,7,9,10,11,12,13,14,15,16,17,18,19,20,21,22,23,24,25,26,27,28,29,30,31,32,33,34,35,36,37,38,39,40,41,42,43,44,45,46,47,48] (fun x=>[(5,.one (.val (.int .u64 (U x.1)))),(8,.one (.val (.int .i64 (Int.ofNat x.1))))]) (fun x=>10-x.1) ⟨0,qds B⟩ (by dsimp only;simp only [u0]<;>cbv<;>try simp) (fun x y hy=>zb1 hy trivial trivial) rfl (fun x L' hok hL1 hL2=>?_);obtain ⟨i,hi⟩:=x;dsimp only;refine kN ?_))
  | ((exact (z0 i hi (by assumption)).elim))
  | (((with_reducible refine kA ?_);have hlt:=l1 i (by assumption);have hstep:=l2 i (by assumption);have hi2:=g5 i hi (by assumption) (by assumption);have hU4:=g4 i hi (by assumption) (by assumption);refine zao ⟨rfl,rfl,rfl⟩ hok hL2 ⟨i+1,hi2⟩ (show 10-(i+1)<10-i by omega) (by dsimp only;(try simp only [hstep,hU4])<;>cbv<;>try simp) rfl))
  | ((with_reducible refine kC ?_);refine nP [] ((tn i hi (by assumption) (by assumption))) ?_)
  | ((with_reducible refine kG ?_);refine zpq hR ⟨zmf,zaa⟩ 1 (by rfl) (by rfl) (by rfl) (by rfl) (by rfl) (by rfl) (by rfl) (by rfl) (by rfl) (Nat.le_refl 1) (by rfl) ⟨?_,by rfl⟩)
  | simp only [*]
  | (split<;>(rename_i hsp;try simp only [FG] at hsp))
 all_goals (have hkk:=g8 i hi (by assumption) (by assumption);rw [hkk];exact congrArg (fun z=>SV.tup [.one (.val (.int .i64 v)),.one (.val (.int .i64 z)),.one (.val (.int .i64 0))]) (l2 i (by assumption)))
theorem getIv (L:List Int) {n i:Nat} (hn:L.length=n) (hi:i<n):std.get (L.map iv) (std.idx 0 (Int.ofNat i) 1) 0=some (.int .i64 (L.getD i 0)):=by
 subst hn;simp [std,List.getD_eq_getElem?_getD,hi,iv]
theorem znj (L:List Int) {i:Nat} (hi:i<L.length):(L.take (i+1)).flatMap encI=(L.take i).flatMap encI++encI (L.getD i 0):=by
 rw [List.take_add_one,List.getElem?_eq_getElem hi,List.flatMap_append];simp [List.getD_eq_getElem?_getD,hi]
theorem zco (L:List Int):(L.flatMap encI).length≤10 * L.length:=by
 induction L with
 | nil=>simp
 | cons x L ih =>
   have:=(zf6 9 (zig x)).2
   simp only [List.flatMap_cons,List.length_append,List.length_cons,encI] at *;omega
theorem zlp (A:Ar) (hA:A=std) (L:List Int) (hL:∀ x∈L,I6 x) (hb:L.length≤1000) {i:Nat} (hi:i<L.length) :
 TriM Tryz.prog 330 [.one (.rsl 0 ((L.take i).flatMap encI).length),.one (.val (.int .i64 (L.getD i 0)))] [.rs ((L.take i).flatMap encI).length (bV ((L.take i).flatMap encI))] (.one (.gsl 1 ((L.take (i+1)).flatMap encI).length)) [.rs ((L.take i).flatMap encI).length (bV ((L.take i).flatMap encI)),.grow 5 1 ((L.take (i+1)).flatMap encI).length (bV ((L.take (i+1)).flatMap encI))]:=by
 have h1:I6 (L.getD i 0):=by
  have:L.getD i 0=L[i]:=by simp [List.getD_eq_getElem?_getD,hi]
  rw [this];exact hL _ (List.getElem_mem hi)
 have h2:=zco (L.take i)
 have h3:(L.take i).length≤1000:=by simp;omega
 rw [znj L hi,List.length_append]
 exact zpo _ _ rfl _ h1.1 h1.2 (by omega)
theorem zpu (L:List Int) (hL:∀ x∈L,I6 x) (n:Nat) (hn:L.length=n) (hb:n≤1000):TriM Tryz.prog 296 [.one (.rsl 0 n)] ([.rs n (L.map iv)]) (.one (.gsl 1 (L.flatMap encI).length)) [.rs n (L.map iv),.grow 5 1 (L.flatMap encI).length (bV (L.flatMap encI))]:=by
 obtain ⟨A,hA,FG⟩:=aF;obtain ⟨V,hV⟩:=nm (L.map iv);obtain ⟨K,hK⟩:=nm ((L.flatMap encI).length);obtain ⟨W,hW⟩:=nm (bV (L.flatMap encI))
 obtain ⟨X,hX⟩:=nm (fun i:Nat=>L.getD i 0)
 obtain ⟨NN,hNN⟩:=nm (fun i:Nat=>((L.take i).flatMap encI).length)
 obtain ⟨P,hP⟩:=nm (fun i:Nat=>bV ((L.take i).flatMap encI))
 simp only [←hV,←hK,←hW]
 have l1:∀ i:Nat,A.lt (Int.ofNat i) (A.len n)=true→i+1≤n:=by rw [hA];intro i h2;have h9:(i:Int)<(n:Int):=of_decide_eq_true h2;omega
 have l2:∀ i:Nat,A.lt (Int.ofNat i) (A.len n)=true→A.add .i64 (Int.ofNat i) 1=Int.ofNat (i+1):=by intro i hi;have:=l1 i hi;rw [hA];exact (wrap64 (by simp;omega) (by simp;omega)).trans (by simp)
 have l4:∀ i:Nat,A.lt (Int.ofNat i) (A.len n)=false→n≤i:=by rw [hA];intro i h2;have h9:¬ (i:Int)<(n:Int):=of_decide_eq_false h2;omega
 have g1:∀ i:Nat,A.lt (Int.ofNat i) (A.len n)=true→A.inb (Int.ofNat i) n=true:=by intro i hi;have:=l1 i hi;rw [hA];simp [std];omega
 have g2:∀ i:Nat,A.lt (Int.ofNat i) (A.len n)=true→A.get V (A.idx 0 (Int.ofNat i) 1) 0=some (.int .i64 (X i)):=by
  intro i hi;have:=l1 i hi;rw [hA,hV,hX];exact getIv L hn this
 have tw:∀ i:Nat,A.lt (Int.ofNat i) (A.len n)=true→TriM Tryz.prog 330 [.one (.rsl 0 (NN i)),.one (.val (.int .i64 (X i)))] [.rs (NN i) (P i)] (.one (.gsl 1 (NN (i+1)))) [.rs (NN i) (P i),.grow 5 1 (NN (i+1)) (P (i+1))]:=by
  intro i hi;have:=l1 i hi;rw [hNN,hP,hX];exact zlp A hA L hL (by omega) (by omega)
 have n0:NN 0=0:=by rw [hNN];rfl
 have p0:P 0=[]:=by rw [hP];rfl
 have e1:NN n=K:=by rw [hNN,hK,←hn];simp
 have e2:P n=W:=by rw [hP,hW,←hn];simp
 change Hid _ at hA hV hK hW hX hNN hP
 refine zad (D:=ords296) (fnO zua Tryz.func296) 16 (fun w0 own ps R hpl hR kE=>?_)
 refine kN ?_
 repeat' (conv=>arg 3;try cbv);first
  | (((with_reducible refine kL ?_);refine zix 3 5 1 (by rfl) (by rfl) ?_;(conv=>arg 3;cbv);refine zas 0 (α:={ i:Nat // i≤n }) [5,9,10,11,12,13,14,15] (fun x=>[(3,.one (.gsl 1 (NN x.1))),(8,.one (.val (.int .i64 (Int.ofNat x.1))))]) (fun x=>[.rs n V,.grow 5 1 (NN x.1) (P x.1)]) (fun x=>n-x.1) ⟨0,Nat.zero_le _⟩ (by dsimp only;simp only [n0]<;>cbv<;>try simp) (by dsimp only;simp only [n0,p0]<;>rfl) (fun x=>rfl) (fun x y hy=>zb1 hy (Nat.lt_succ_self 1) trivial) rfl (fun x L' hL1 hL2=>?_);obtain ⟨i,hi⟩:=x;dsimp only;refine kN ?_))
  | (((with_reducible refine kA ?_);have hlt:=l1 i (by assumption);have hstep:=l2 i (by assumption);refine zal (l:=[0,2]) ⟨rfl,rfl,rfl⟩ hL2 ⟨i+1,hlt⟩ (show n-(i+1)<n-i by omega) rfl rfl (by rw [hpl];rfl) (zaj (n:=2) rfl) (zav (by cbv<;>trivial)) ⟨(by first|exact .inl rfl|exact .inr rfl),(by first|exact .inl rfl|exact .inr rfl),trivial⟩ (by dsimp only;(try simp only [hstep])<;>cbv<;>try simp)))
  | ((with_reducible refine kC ?_);refine nM [.rd (.gsl 1 (NN i))] ((tw i (by assumption))) ?_)
  | ((with_reducible refine kG ?_);(have hii:i=n:=Nat.le_antisymm hi (l4 i (by assumption)));(rw [←hii] at e1 e2);(simp only [e1,e2]);refine kR1 hR [0,1] ⟨rfl,rfl⟩)
  | simp only [*]
  | (split<;>(rename_i hsp;try simp only [FG] at hsp))
theorem zro (e:EnD) (hL:∀ x∈e.list,I6 x):TriM Tryz.prog 297 [enS e] ([]) (.one (.gsl 0 (entB e).length)) [.grow 5 1 (entB e).length (bV (entB e))]:=by
 obtain ⟨A,hA,FG⟩:=aF;obtain ⟨kd,tk,tn,cl,ot,ep,wl,wh,nn⟩:=e;obtain ⟨L,hLe⟩:=nm (([kd,tk,tn,cl,ot,ep,wl,wh,nn]:List Int));obtain ⟨K,hK⟩:=nm ((entB ⟨kd,tk,tn,cl,ot,ep,wl,wh,nn⟩).length);obtain ⟨W,hW⟩:=nm (bV (entB ⟨kd,tk,tn,cl,ot,ep,wl,wh,nn⟩))
 obtain ⟨X,hX⟩:=nm (fun i:Nat=>L.getD i 0)
 obtain ⟨NN,hNN⟩:=nm (fun i:Nat=>((L.take i).flatMap encI).length)
 obtain ⟨P,hP⟩:=nm (fun i:Nat=>bV ((L.take i).flatMap encI))
 simp only [←hK,←hW]
 have hn:L.length=9:=by rw [hLe];rfl
 replace hL:∀ x∈L,I6 x:=by rw [hLe];exact hL
 have hLf:entB ⟨kd,tk,tn,cl,ot,ep,wl,wh,nn⟩=L.flatMap encI:=by rw [hLe];rfl
 rw [hLf] at hK hW
 have l1:∀ i:Nat,A.lt (Int.ofNat i) 9=true→i+1≤9:=by rw [hA];intro i h2;have h9:(i:Int)<(9:Int):=of_decide_eq_true h2;omega
 have l2:∀ i:Nat,A.lt (Int.ofNat i) 9=true→A.add .i64 (Int.ofNat i) 1=Int.ofNat (i+1):=by intro i hi;have:=l1 i hi;rw [hA];exact (wrap64 (by simp;omega) (by simp;omega)).trans (by simp)
 have l4:∀ i:Nat,A.lt (Int.ofNat i) 9=false→9≤i:=by rw [hA];intro i h2;have h9:¬ (i:Int)<(9:Int):=of_decide_eq_false h2;omega
 have g1:∀ i:Nat,A.lt (Int.ofNat i) 9=true→A.inb (Int.ofNat i) 9=true:=by intro i hi;have:=l1 i hi;rw [hA];simp [std];omega
 have g2:∀ i:Nat,A.lt (Int.ofNat i) 9=true→A.get [.int .i64 kd,.int .i64 tk,.int .i64 tn,.int .i64 cl,.int .i64 ot,.int .i64 ep,.int .i64 wl,.int .i64 wh,.int .i64 nn] (A.idx 0 (Int.ofNat i) 1) 0=some (.int .i64 (X i)):=by
  intro i hi;have:=l1 i hi;rw [hA,hX,show ([.int .i64 kd,.int .i64 tk,.int .i64 tn,.int .i64 cl,.int .i64 ot,.int .i64 ep,.int .i64 wl,.int .i64 wh,.int .i64 nn]:List Value)=L.map iv by rw [hLe];rfl];exact getIv L hn this
 have tw:∀ i:Nat,A.lt (Int.ofNat i) 9=true→TriM Tryz.prog 330 [.one (.rsl 0 (NN i)),.one (.val (.int .i64 (X i)))] [.rs (NN i) (P i)] (.one (.gsl 1 (NN (i+1)))) [.rs (NN i) (P i),.grow 5 1 (NN (i+1)) (P (i+1))]:=by
  intro i hi;have:=l1 i hi;rw [hNN,hP,hX];exact zlp A hA L hL (by omega) (by omega)
 have n0:NN 0=0:=by rw [hNN];rfl
 have p0:P 0=[]:=by rw [hP];rfl
 have e1:NN 9=K:=by rw [hNN,hK,←hn];simp
 have e2:P 9=W:=by rw [hP,hW,←hn];simp
 change Hid _ at hA hL hK hW hX hNN hP
 refine zad (D:=ords297) (fnO zt9 Tryz.func297) 32 (fun w0 own ps R hpl hR kE=>?_)
 refine kN ?_
 repeat' (conv=>arg 3;try cbv);first
  | (((with_reducible refine kL ?_);refine zix 3 5 1 (by rfl) (by rfl) ?_;(conv=>arg 3;cbv);refine zas 0 (α:={ i:Nat // i≤9 }) [5,6,7,8,9,10,11,12,13,14,15,16,17,18,19,20,21,22,23,26,27,28,29,30,31] (fun x=>[(3,.one (.gsl 1 (NN x.1))),(25,.one (.val (.int .i64 (Int.ofNat x.1))))]) (fun x=>[.own 45 [.val (.int .i64 kd),.val (.int .i64 tk),.val (.int .i64 tn),.val (.int .i64 cl),.val (.int .i64 ot),.val (.int .i64 ep),.val (.int .i64 wl),.val (.int .i64 wh),.val (.int .i64 nn)],.grow 5 1 (NN x.1) (P x.1)]) (fun x=>9-x.1) ⟨0,Nat.zero_le _⟩ (by dsimp only;simp only [n0]<;>cbv<;>try simp) (by dsimp only;simp only [n0,p0]<;>rfl) (fun x=>rfl) (fun x y hy=>zb1 hy (Nat.lt_succ_self 1) trivial) rfl (fun x L' hL1 hL2=>?_);obtain ⟨i,hi⟩:=x;dsimp only;refine kN ?_))
  | (((with_reducible refine kA ?_);have hlt:=l1 i (by assumption);have hstep:=l2 i (by assumption);refine zal (l:=[0,2]) ⟨rfl,rfl,rfl⟩ hL2 ⟨i+1,hlt⟩ (show 9-(i+1)<9-i by omega) rfl rfl (by rw [hpl];rfl) (zaj (n:=2) rfl) (zav (by cbv<;>trivial)) ⟨(by first|exact .inl rfl|exact .inr rfl),(by first|exact .inl rfl|exact .inr rfl),trivial⟩ (by dsimp only;(try simp only [hstep])<;>cbv<;>try simp)))
  | ((with_reducible refine kC ?_);refine nM [.rd (.gsl 1 (NN i))] ((tw i (by assumption))) ?_)
  | ((with_reducible refine kG ?_);(have hii:i=9:=Nat.le_antisymm hi (l4 i (by assumption)));(rw [←hii] at e1 e2);(simp only [e1,e2]);refine kR1 hR [1] ⟨rfl,rfl⟩)
  | simp only [*]
  | (split<;>(rename_i hsp;try simp only [FG] at hsp))
end Go.Proofs.YtpigpajgjdcagaaGreat
