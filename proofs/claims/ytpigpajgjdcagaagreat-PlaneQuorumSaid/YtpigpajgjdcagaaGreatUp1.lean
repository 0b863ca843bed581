/- Parts. -/
import Derived.Test.YtpigpajgjdcagaaGreatUf
import Derived.Test.YtpigpajgjdcagaaGreatUt
import Derived.Test.YtpigpajgjdcagaaGreatUg
set_option linter.unusedSimpArgs false
set_option linter.unusedVariables false
set_option maxRecDepth 100000
set_option maxHeartbeats 60000000
namespace Go.Proofs.YtpigpajgjdcagaaGreat
open Go.RowKit Eng
theorem ze5 (n:Int) (lo:Int) (hi:Int) :TriP Tryz.prog 286 [.one (.val (.int .i64 n)),.one (.val (.int .i64 lo)),.one (.val (.int .i64 hi))] ([]) (vB (inB n lo hi)):=by
 obtain ⟨A,hA,FG⟩:=aF;unfold GenF at FG;simp only [inB];replace hA:=kH hA
 refine zad (D:=ords286) (fnO zui Tryz.func286) 12 (fun w0 own ps R hpl hR kE=>?_)
 refine kN ?_
 repeat' (conv=>arg 3;try cbv);first
  | ((with_reducible refine kG ?_);refine kO1 hR 0 ⟨?_,by rfl⟩)
  | simp only [*]
  | (split<;>(rename_i hsp;try simp only [FG] at hsp))
 all_goals (try clear hR hpl FG;replace hA:=hA.out;subst hA;first|rfl|(simp_all [std];done)|( (try simp_all [std])<;>(first|rfl|(intros;omega)|(split<;>first|omega|rfl|(simp_all;done))|grind)))
theorem zop (n:Int) (lo:Int) (hi:Int) :TriP Tryz.prog 234 [.one (.val (.int .i64 n)),.one (.val (.int .i64 lo)),.one (.val (.int .i64 hi))] ([]) (vB (inB n lo hi)):=by
 obtain ⟨A,hA,FG⟩:=aF;unfold GenF at FG;simp only [inB];replace hA:=kH hA
 refine zad (D:=ords234) (fnO zuz Tryz.func234) 12 (fun w0 own ps R hpl hR kE=>?_)
 refine kN ?_
 repeat' (conv=>arg 3;try cbv);first
  | ((with_reducible refine kG ?_);refine kO1 hR 0 ⟨?_,by rfl⟩)
  | simp only [*]
  | (split<;>(rename_i hsp;try simp only [FG] at hsp))
 all_goals (try clear hR hpl FG;replace hA:=hA.out;subst hA;first|rfl|(simp_all [std];done)|( (try simp_all [std])<;>(first|rfl|(intros;omega)|(split<;>first|omega|rfl|(simp_all;done))|grind)))
theorem qca {A:Ar} (hA:A=std) {n:Nat} (h:n≤1000000):A.sub .i64 (A.len n) 1=(n:Int)-1:=by rw [hA];exact wrap64 (by simp [std];omega) (by simp [std];omega)
theorem CfgOk.lens {c:CfgD} {K:CfgL} (ok:CfgOk c) (hK:K=c.L):K.zl≤1000000∧K.cl≤1000000∧K.tl≤1000000∧K.vl≤1000000∧K.rl≤1000000∧K.ol≤1000000:=by
 subst hK
 have h1:=ok.zones;have h2:=ok.cells;have h3:=ok.tens;have h4:=ok.vers;have h5:=ok.reps;have h6:=ok.obs
 simp only [CfgD.L];omega
theorem ule (x:Int):std.le 0 (std.conv .u64 x)=true:=by simp [std,IntKind.wrap,IntKind.signed];omega
theorem ztj (e:EnD) :TriP Tryz.prog 68 [enS e] ([]) (vB (booksP e)):=by
 obtain ⟨A,hA,FG⟩:=aF;unfold GenF at FG;simp only [booksP];replace hA:=kH hA
 refine zad (D:=ords68) (fnO zyz Tryz.func68) 18 (fun w0 own ps R hpl hR kE=>?_)
 refine kN ?_
 repeat' (conv=>arg 3;try cbv);first
  | ((with_reducible refine kG ?_);refine kO1 hR 0 ⟨?_,by rfl⟩)
  | simp only [*]
  | (split<;>(rename_i hsp;try simp only [FG] at hsp))
 all_goals (try clear hR hpl FG;replace hA:=hA.out;subst hA;first|rfl|(simp_all [std];done)|(cases e;try dsimp only at *; (try simp_all [std])<;>(first|rfl|(intros;omega)|(split<;>first|omega|rfl|(simp_all;done))|grind)))
end Go.Proofs.YtpigpajgjdcagaaGreat
