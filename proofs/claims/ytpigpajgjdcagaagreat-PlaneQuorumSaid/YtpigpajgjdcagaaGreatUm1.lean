/- Parts. -/
import Derived.Test.YtpigpajgjdcagaaGreatUo
import Derived.Test.YtpigpajgjdcagaaGreatUf
import Derived.Test.YtpigpajgjdcagaaGreatUt
set_option linter.unusedSimpArgs false
set_option linter.unusedVariables false
set_option maxRecDepth 100000
set_option maxHeartbeats 60000000
namespace Go.Proofs.YtpigpajgjdcagaaGreat
open Go.RowKit Eng
namespace Eng
def TriZ {β:Type} (P:Program) (f:FuncId) (args:List SV) (mem:List MB) (v:β→SV) (M:β→List MB):Prop:=Tri P f args mem fun u m=>∃ y,u=v y∧m=M y
theorem zfy {E:Env} {R:Ending→World→Prop} (vw:List VW) (l:List Nat) {β:Type} {f:FuncId} {args args0:List SV} {dst:Option Tmp} {k:List It} {tm:PT} {mem mem0:List MB} {v0:β→SV} {M:β→List MB} (ht:TriZ E.P f args0 mem0 v0 M) (hargs:args=mapVs (vwS vw mem.length) args0) (hv:views mem vw mem.length vw mem0) (hd:distinct (sameH vw)=true) (hcl:clM vw mem0=true) (hok:okM1 mem0.length mem0=true) (hca:clA vw args0=true) (hao:okA1 mem0.length args0=true)
 (hcv:∀ y,clV vw (v0 y)=true) (hcm:∀ y,clM vw (M y)=true) (hrd:∀ y,rdSame (M y) mem0) (hkp:∀ y,keepV l vw mem0 (M y)) (hvl:∀ y,vw.length≤(M y).length) (hk:headW l k=true) (h:∀ y,Good E R ⟨k,putE tm dst (mapV (vwS vw mem.length) (v0 y)),upd vw mem.length mem vw (M y)⟩):Good E R ⟨.call f args dst::k,tm,mem⟩ :=
 znc vw l ht hargs hv hd hcl (zaj hok) hca (zbc hao) (fun v m hq=>by obtain ⟨y,rfl,rfl⟩:=hq;exact ⟨hcv y,hcm y,hrd y,hkp y,hvl y⟩) hk fun v m hq=>by obtain ⟨y,rfl,rfl⟩:=hq;exact h y
end Eng
theorem zrs (v n:Int) (hn:1≤n):(v.tmod n+n).tmod n=v % n:=by
 have hlt:=Int.tmod_lt_of_pos v (show 0<n by omega)
 have hgt:=Int.lt_tmod_of_pos v (show 0<n by omega)
 rw [Int.tmod_eq_emod_of_nonneg (by omega),Int.add_emod_right]
 conv=>rhs;rw [←Int.mul_tdiv_add_tmod v n,Int.add_comm,Int.add_mul_emod_self_left]
theorem zfj (v:Int) (n:Int) (h1:1≤n) (h2:n≤1000000000000):TriP Tryz.prog 42 [.one (.val (.int .i64 v)),.one (.val (.int .i64 n))] ([]) (vI (v % n)):=by
 obtain ⟨A,hA,FG⟩:=aF;unfold GenF at FG;obtain ⟨r1,hr1⟩:=nm (v.tmod n);obtain ⟨r2,hr2⟩:=nm (v.tmod n+n);obtain ⟨r3,hr3⟩:=nm (v % n);rw [←hr3]
 have f0:A.not (A.eq n 0)=true:=by
  rw [hA];simp [std];omega
 have f1:A.rem v n=r1:=by
  rw [hA];rw [hr1];rfl
 have f2:A.add .i64 r1 n=r2:=by
  rw [hA]
  rw [hr1,hr2];have:=Int.tmod_lt_of_pos v (show 0<n by omega);have:=Int.lt_tmod_of_pos v (show 0<n by omega);exact wrap64 (by omega) (by omega)
 have f3:A.rem r2 n=r3:=by
  rw [hA];rw [hr2,hr3];exact zrs v n h1
 change Hid _ at hA hr1 hr2 hr3
 refine zad (D:=ords42) (fnO zy3 Tryz.func42) 10 (fun w0 own ps R hpl hR kE=>?_)
 refine kN ?_
 repeat' (conv=>arg 3;try cbv);first
  | ((with_reducible refine kG ?_);refine kO1 hR 0 ⟨?_,by rfl⟩)
  | simp only [*]
  | (split<;>(rename_i hsp;try simp only [FG] at hsp))
 all_goals ((try simp only [f0,f1,f2,f3]);try clear hR hpl FG f0 f1 f2 f3;replace hA:=hA.out;subst hA;first|rfl|(simp_all [std];done)|( (try simp_all [std])<;>(first|rfl|(intros;omega)|(split<;>first|omega|rfl|(simp_all;done))|grind)))
theorem zl6 (v:Int) (lo:Int) (hi:Int) (h1:lo≤hi) (h2:-1000000≤lo) (h3:hi≤1000000):TriP Tryz.prog 38 [.one (.val (.int .i64 v)),.one (.val (.int .i64 lo)),.one (.val (.int .i64 hi))] ([]) (vI (lo+v % (hi-lo+1))):=by
 obtain ⟨A,hA,FG⟩:=aF;unfold GenF at FG;obtain ⟨d1,hd1⟩:=nm (hi-lo);obtain ⟨d2,hd2⟩:=nm (hi-lo+1);obtain ⟨r1,hr1⟩:=nm (v % (hi-lo+1));obtain ⟨r2,hr2⟩:=nm (lo+v % (hi-lo+1));rw [←hr2]
 have f0:A.sub .i64 hi lo=d1:=by
  rw [hA]
  rw [hd1];exact wrap64 (by omega) (by omega)
 have f1:A.add .i64 d1 1=d2:=by
  rw [hA]
  rw [hd1,hd2];exact wrap64 (by omega) (by omega)
 have f2:A.add .i64 lo r1=r2:=by
  rw [hA]
  rw [hr1,hr2];have:=Int.emod_nonneg v (show hi-lo+1≠0 by omega);have:=Int.emod_lt_of_pos v (show 0<hi-lo+1 by omega);exact wrap64 (by omega) (by omega)
 have tm:=(by rw [hd2,hr1];exact zfj v _ (by omega) (by omega):TriP Tryz.prog 42 [.one (.val (.int .i64 v)),.one (.val (.int .i64 d2))] [] (vI r1))
 try simp only [←hd1,←hd2,←hr1,←hr2] at tm
 change Hid _ at hA hd1 hd2 hr1 hr2
 refine zad (D:=ords38) (fnO zy6 Tryz.func38) 12 (fun w0 own ps R hpl hR kE=>?_)
 refine kN ?_
 repeat' (conv=>arg 3;try cbv);first
  | ((with_reducible refine kC ?_);refine nP [] tm ?_)
  | ((with_reducible refine kG ?_);refine kO1 hR 0 ⟨?_,by rfl⟩)
  | simp only [*]
  | (split<;>(rename_i hsp;try simp only [FG] at hsp))
 all_goals ((try simp only [f0,f1,f2]);try clear hR hpl FG f0 f1 f2 tm;replace hA:=hA.out;subst hA;first|rfl|(simp_all [std];done)|( (try simp_all [std])<;>(first|rfl|(intros;omega)|(split<;>first|omega|rfl|(simp_all;done))|grind)))
theorem zrk  (n:Nat) (L:List Value):TriP Tryz.prog 32 [.one (.rsl 0 n)] [.rs n L] (vB (decide (n≤200))):=by
 obtain ⟨A,hA,FG⟩:=aF;unfold GenF at FG;obtain ⟨b,hb⟩:=nm (decide (n≤200));rw [←hb]
 have f0:A.le (A.len n) 200=b:=by
  rw [hA];rw [hb];simp [std];omega
 change Hid _ at hA hb
 refine zad (D:=ords32) (fnO zy8 Tryz.func32) 5 (fun w0 own ps R hpl hR kE=>?_)
 refine kN ?_
 repeat' (conv=>arg 3;try cbv);first
  | ((with_reducible refine kG ?_);refine kO1 hR 1 ⟨?_,by rfl⟩)
  | simp only [*]
  | (split<;>(rename_i hsp;try simp only [FG] at hsp))
 all_goals ((try simp only [f0]);try clear hR hpl FG f0;replace hA:=hA.out;subst hA;first|rfl|(simp_all [std];done)|( (try simp_all [std])<;>(first|rfl|(intros;omega)|(split<;>first|omega|rfl|(simp_all;done))|grind)))
theorem zyk (n:Nat) (L:List Value):TriM Tryz.prog 41 [.one (.rsl 0 n)] ([.rs n L]) (.one (.ptr 1 0 0)) [.rs n L,.own 155 [.rsl 0 n,.val (.int .i64 0)]]:=by
 obtain ⟨A,hA,FG⟩:=aF;replace hA:=kH hA
 refine zad (D:=ords41) (fnO zy4 Tryz.func41) 5 (fun w0 own ps R hpl hR kE=>?_)
 refine kN ?_
 repeat' (conv=>arg 3;try cbv);first
  | ((with_reducible refine kG ?_);refine kO1 hR 2 ⟨rfl,rfl⟩)
  | simp only [*]
  | (split<;>(rename_i hsp;try simp only [FG] at hsp))
theorem zh0 (n:Nat) (l:List Int) (hn:n=l.length) (pt:Int) (hp:0≤pt∧pt≤100000000) (hl:n≤1000000) (m:Int) (h1:1≤m) (h2:m≤1000000000):TriZ (β:={ q:Int × Int // (0≤q.1∧q.1<m)∧0≤q.2∧q.2≤pt+1 }) Tryz.prog 87 [.one (.ptr 1 0 0),.one (.val (.int .i64 m))] ([.rs n (l.map iv),.own 155 [.rsl 0 n,.val (.int .i64 pt)]]) (fun y=>vI y.1.1) (fun y=>[.rs n (l.map iv),.own 155 [.rsl 0 n,.val (.int .i64 y.1.2)]]):=by
 obtain ⟨A,hA,FG⟩:=aF;obtain ⟨V,hV⟩:=nm (l.map iv);obtain ⟨p1,hp1⟩:=nm (pt+1);obtain ⟨kq,hkq⟩:=nm (std.quo .i64 pt (std.len n));obtain ⟨pm,hpm⟩:=nm (pt.tmod n);obtain ⟨v9,hv9⟩:=nm (l.getD (pt.tmod n).toNat 0);rw [←hV];obtain ⟨r0,hr0⟩:∃ v8,v8=v9 % 1073741824:=⟨_,rfl⟩;obtain ⟨x2,hx2⟩:∃ v8,v8=std.add .i64 r0 (std.mul .i64 kq 7):=⟨_,rfl⟩;obtain ⟨r2,hr2⟩:∃ v8,v8=x2 % m:=⟨_,rfl⟩
 have hpos:A.eq (A.len n) 0=false→0<n:=by rw [hA];intro h;simp [std] at h;omega
 have hpb:A.eq (A.len n) 0=false→0≤pm∧pm<n:=by intro h;have:=hpos h;rw [hpm,Int.tmod_eq_emod_of_nonneg hp.1];exact ⟨Int.emod_nonneg _ (by omega),Int.emod_lt_of_pos _ (by omega)⟩
 have f0:A.add .i64 pt 1=p1:=by
  rw [hA]
  rw [hp1];exact wrap64 (by omega) (by omega)
 have f1:A.rem pt (A.len n)=pm:=by
  rw [hA];rw [hpm];rfl
 have f2:A.quo .i64 pt (A.len n)=kq:=by
  rw [hA];rw [hkq]
 have f3:A.eq (A.len n) 0=false→A.inb pm n=true:=by
  rw [hA]
  rw [←hA];intro h;have:=hpb h;rw [hA];simp [std];omega
 have f4:A.eq (A.len n) 0=false→A.get V (A.idx 0 pm 1) 0=some (.int .i64 v9):=by
  rw [hA]
  rw [←hA];intro h;have:=hpb h;have:=rowF (fun x:Int=>[iv x]) 1 (fun _=>rfl) l 0 0 (by omega) pm (by rw [←hn];simp [std];omega);rw [←zhi] at this;rw [hA,hV,hv9,←hpm];exact this
 have f5:A.add .i64 r0 (A.mul .i64 kq 7)=x2:=by
  rw [hA];rw [hx2]
 have tm1:=(by rw [hr0];exact zfj v9 _ (by omega) (by omega):TriP Tryz.prog 42 [.one (.val (.int .i64 v9)),.one (.val (.int .i64 1073741824))] [] (vI r0))
 try simp only [←hV,←hp1,←hkq,←hpm,←hv9] at tm1
 have tm2:=(by rw [hr2];exact zfj x2 m h1 (by omega):TriP Tryz.prog 42 [.one (.val (.int .i64 x2)),.one (.val (.int .i64 m))] [] (vI r2))
 try simp only [←hV,←hp1,←hkq,←hpm,←hv9] at tm2
 change Hid _ at hA hV hp1 hkq hpm hv9 hr0 hx2 hr2 hn
 refine zad (D:=ords87) (fnO zyy Tryz.func87) 51 (fun w0 own ps R hpl hR kE=>?_)
 refine kN ?_
 repeat' (conv=>arg 3;try cbv);first
  | ((with_reducible refine kC ?_);(first|refine nP [] tm1 ?_|refine nP [] tm2 ?_))
  | ((with_reducible refine kG ?_);first|(refine kO1 hR 2 ⟨⟨(0,pt),⟨Int.le_refl 0,by omega⟩,by omega,by omega⟩,rfl,rfl⟩)|(refine kO1 hR 2 ⟨⟨(r2,p1),⟨by have:=hr2.out;rw [this];exact Int.emod_nonneg _ (by omega),by have:=hr2.out;rw [this];exact Int.emod_lt_of_pos _ (by omega)⟩,by have:=hp1.out;omega,by have:=hp1.out;omega⟩,rfl,rfl⟩))
  | simp only [*]
  | (split<;>(rename_i hsp;try simp only [FG] at hsp))
theorem zrj (n:Nat) (l:List Int) (hn:n=l.length) (pt:Int) (hp:0≤pt∧pt≤100000000) (hl:n≤1000000) (lo hi:Int) (h1:lo≤hi) (h2:-1000000≤lo) (h3:hi≤1000000):TriZ (β:={ q:Int × Int // (lo≤q.1∧q.1≤hi)∧0≤q.2∧q.2≤pt+1 }) Tryz.prog 88 [.one (.ptr 1 0 0),.one (.val (.int .i64 lo)),.one (.val (.int .i64 hi))] ([.rs n (l.map iv),.own 155 [.rsl 0 n,.val (.int .i64 pt)]]) (fun y=>vI y.1.1) (fun y=>[.rs n (l.map iv),.own 155 [.rsl 0 n,.val (.int .i64 y.1.2)]]):=by
 obtain ⟨A,hA,FG⟩:=aF;obtain ⟨V,hV⟩:=nm (l.map iv);obtain ⟨d1,hd1⟩:=nm (hi-lo);obtain ⟨d2,hd2⟩:=nm (hi-lo+1);rw [←hV]
 have f0:A.sub .i64 hi lo=d1:=by
  rw [hA]
  rw [hd1];exact wrap64 (by omega) (by omega)
 have f1:A.add .i64 d1 1=d2:=by
  rw [hA]
  rw [hd1,hd2];exact wrap64 (by omega) (by omega)
 have tn:=(by have:=zh0 n l hn pt hp hl d2 (by omega) (by omega);rw [←hV] at this;exact this)
 try simp only [←hV,←hd1,←hd2] at tn
 change Hid _ at hA hV hd1 hd2 hn
 refine zad (D:=ords88) (fnO zyx Tryz.func88) 12 (fun w0 own ps R hpl hR kE=>?_)
 refine kN ?_
 repeat' (conv=>arg 3;try cbv);first
  | ((with_reducible refine kC ?_);refine zfy [.same 0,.same 1] [1] (tn) (by rfl) ⟨rfl,rfl,trivial⟩ rfl rfl rfl rfl rfl (fun _=>rfl) (fun _=>rfl) (fun _=>⟨.inr rfl,.inl rfl,trivial⟩) (fun _=>⟨.inr rfl,.inl rfl,trivial⟩) (fun _=>Nat.le_refl 2) rfl (fun y=>?_);obtain ⟨⟨r9,p9⟩,hq⟩:=y;dsimp only;obtain ⟨s9,hs9⟩:∃ v8,v8=lo+r9:=⟨_,rfl⟩;have fs:A.add .i64 lo r9=s9:=(by rw [hA.out,hs9];have:=hd2.out;exact wrap64 (by omega) (by omega));replace hs9:=kH hs9;refine kN ?_)
  | ((with_reducible refine kG ?_);refine kO1 hR 2 ⟨⟨(s9,p9),⟨by rw [hs9.out];omega,by rw [hs9.out];have:=hd2.out;omega⟩,hq.2⟩,rfl,rfl⟩)
  | simp only [*]
  | (split<;>(rename_i hsp;try simp only [FG] at hsp))
theorem zyj (n:Nat) (l:List Int) (hn:n=l.length) (pt:Int) (hp:0≤pt∧pt≤100000000) (hl:n≤1000000) (m:Int) (h1:1≤m) (h2:m≤1000000):TriZ (β:={ q:Bool × Int // 0≤q.2∧q.2≤pt+1 }) Tryz.prog 89 [.one (.ptr 1 0 0),.one (.val (.int .i64 m))] ([.rs n (l.map iv),.own 155 [.rsl 0 n,.val (.int .i64 pt)]]) (fun y=>vB y.1.1) (fun y=>[.rs n (l.map iv),.own 155 [.rsl 0 n,.val (.int .i64 y.1.2)]]):=by
 obtain ⟨A,hA,FG⟩:=aF;obtain ⟨V,hV⟩:=nm (l.map iv);rw [←hV]
 have tn:=(by have:=zh0 n l hn pt hp hl m h1 (by omega);rw [←hV] at this;exact this)
 try simp only [←hV] at tn
 change Hid _ at hA hV hn
 refine zad (D:=ords89) (fnO zyw Tryz.func89) 7 (fun w0 own ps R hpl hR kE=>?_)
 refine kN ?_
 repeat' (conv=>arg 3;try cbv);first
  | ((with_reducible refine kC ?_);refine zfy [.same 0,.same 1] [1] (tn) (by rfl) ⟨rfl,rfl,trivial⟩ rfl rfl rfl rfl rfl (fun _=>rfl) (fun _=>rfl) (fun _=>⟨.inr rfl,.inl rfl,trivial⟩) (fun _=>⟨.inr rfl,.inl rfl,trivial⟩) (fun _=>Nat.le_refl 2) rfl (fun y=>?_);obtain ⟨⟨r9,p9⟩,hq⟩:=y;dsimp only;obtain ⟨b9,hb9⟩:∃ v8,v8=A.eq r9 0:=⟨_,rfl⟩;replace hb9:=hb9.symm;refine kN ?_)
  | ((with_reducible refine kG ?_);refine kO1 hR 2 ⟨⟨(b9,p9),hq.2⟩,rfl,rfl⟩)
  | simp only [*]
  | (split<;>(rename_i hsp;try simp only [FG] at hsp))
section
open Eng
theorem zqn (l:List VW):∀ xs:List Value,clA l (xs.map fun x=>SV.one (.val x))=true
 | []=>rfl
 | x::xs=>by show (bif true then clA l (xs.map fun x=>SV.one (.val x)) else false)=true;exact zqn l xs
theorem zm2 (n:Nat):∀ xs:List Value,okA1 n (xs.map fun x=>SV.one (.val x))=true
 | []=>rfl
 | x::xs=>by show (bif true then okA1 n (xs.map fun x=>SV.one (.val x)) else false)=true;exact zm2 n xs
theorem zj2 (l:List VW) (n:Nat):∀ xs:List Value,mapVs (vwS l n) (xs.map fun x=>SV.one (.val x))=xs.map fun x=>SV.one (.val x)
 | []=>rfl
 | x::xs=>congrArg (SV.one (.val x)::·) (zj2 l n xs)
theorem zg0 {E:Eng.Env} {R:Ending→World→Prop} {dst:Option Tmp} {k:List It} {tm:PT} {mem:List MB} {n:Nat} {V:List Value} {pt:Int} (s t:Nat) {β:Type} {u:β→Value} {q:β→Int} {f:FuncId} (xs:List Value)
 (ht:TriZ E.P f (.one (.ptr 1 0 0)::xs.map fun x=>.one (.val x)) [.rs n V,.own 155 [.rsl 0 n,.val (.int .i64 pt)]] (fun y=>.one (.val (u y))) (fun y=>[.rs n V,.own 155 [.rsl 0 n,.val (.int .i64 (q y))]]))
 (h0:nth mem s=some (.rs n V)) (hb:nth mem t=some (.own 155 [.rsl s n,.val (.int .i64 pt)])) (h1:Nat.beq s t=false) (hk:headW [t] k=true)
 (h:∀ y,Eng.Good E R ⟨k,putE tm dst (.one (.val (u y))),setAt mem t (.own 155 [.rsl s n,.val (.int .i64 (q y))])⟩):Eng.Good E R ⟨.call f (.one (.ptr t 0 0)::xs.map fun x=>.one (.val x)) dst::k,tm,mem⟩:=by
 have hst:s≠t:=fun e=>by rw [e,Nat.beq_refl] at h1;cases h1
 have h2:Nat.beq t s=false:=by
  cases e:Nat.beq t s with
  | false=>rfl
  | true=>exact absurd (Nat.eq_of_beq_eq_true e).symm hst
 have hs0:setAt mem s (.rs n V)=mem:=by
  rw [zaf];rw [zak] at h0
  exact List.ext_getElem? fun j=>by
   by_cases e:s=j
   ·subst e;rw [List.getElem?_set_self (List.getElem?_eq_some_iff.1 h0).1,h0]
   ·rw [List.getElem?_set_ne e]
 refine zfy [.same s,.same t] [t] ht (congrArg (SV.one (.ptr t 0 0)::·) (zj2 _ _ xs).symm) ⟨h0,hb,trivial⟩ ?_ rfl rfl ?_ ?_ (fun _=>rfl) (fun _=>rfl) (fun _=>⟨.inr rfl,.inl rfl,trivial⟩) (fun _=>⟨.inr rfl,.inl ?_,trivial⟩) (fun _=>Nat.le_refl 2) hk (fun y=>?_)
 ·show Eng.distinct [s,t]=true
  simp [Eng.distinct,inL,h2]
 ·show (bif true then clA _ (xs.map fun x=>SV.one (.val x)) else false)=true
  exact zqn _ xs
 ·show (bif true then okA1 2 (xs.map fun x=>SV.one (.val x)) else false)=true
  exact zm2 2 xs
 ·simp [inL,Nat.beq_refl]
 ·have:=h y
  show Eng.Good E R ⟨k,putE tm dst (.one (.val (u y))),(setAt (setAt mem s (.rs n V)) t (.own 155 [.rsl s n,.val (.int .i64 (q y))]))++[]⟩
  rw [hs0,List.append_nil];exact this
end
end Go.Proofs.YtpigpajgjdcagaaGreat
