/- Parts. -/
import Derived.Test.YtpigpajgjdcagaaGreatUp1
import Derived.Test.YtpigpajgjdcagaaGreatUg
set_option linter.unusedSimpArgs false
set_option linter.unusedVariables false
set_option maxRecDepth 100000
set_option maxHeartbeats 60000000
namespace Go.Proofs.YtpigpajgjdcagaaGreat
open Go.RowKit Eng
theorem zyo (n:Int) (lo hi:Int):TriP Tryz.prog 276 [.agg [.val (.int .i64 lo),.val (.int .i64 hi)],.one (.val (.int .i64 n))] ([]) (vB (inB n lo hi)):=by
 obtain ⟨A,hA,FG⟩:=aF;unfold GenF at FG;simp only [inB];replace hA:=kH hA
 refine zad (D:=ords276) (fnO zuj Tryz.func276) 13 (fun w0 own ps R hpl hR kE=>?_)
 refine kN ?_
 repeat' (conv=>arg 3;try cbv);first
  | ((with_reducible refine kG ?_);refine kO1 hR 0 ⟨?_,by rfl⟩)
  | simp only [*]
  | (split<;>(rename_i hsp;try simp only [FG] at hsp))
 all_goals (try clear hR hpl FG;replace hA:=hA.out;subst hA;first|rfl|(simp_all [std];done)|( (try simp_all [std])<;>(first|rfl|(intros;omega)|(split<;>first|omega|rfl|(simp_all;done))|grind)))
abbrev belowS (n:Int):SV:=.agg [.val (iv 0),.val (iv n)]
theorem sub1 {n:Int} (h:-1000000≤n∧n≤1000000):std.sub .i64 n 1=n-1:=wrap64 (by omega) (by omega)
theorem zfl (n:Int) (hn:-1000000≤n∧n≤1000000):TriP Tryz.prog 314 [.one (.val (.int .i64 n))] ([]) (belowS (n-1)):=by
 obtain ⟨A,hA,FG⟩:=aF
 have f0:A.sub .i64 n 1=n-1:=by
  rw [hA];exact sub1 hn
 replace hA:=kH hA
 refine zad (D:=ords314) (fnO ztz Tryz.func314) 5 (fun w0 own ps R hpl hR kE=>?_)
 refine kN ?_
 repeat' (conv=>arg 3;try cbv);first
  | ((with_reducible refine kG ?_);refine kO1 hR 0 ⟨?_,by rfl⟩)
  | simp only [*]
  | (split<;>(rename_i hsp;try simp only [FG] at hsp))
 all_goals (simp only [f0])
theorem zym (k:Int) {tn cn rn vn:Int} (htn:-1000000≤tn∧tn≤1000000) (hcn:-1000000≤cn∧cn≤1000000) (hrn:-1000000≤rn∧rn≤1000000) (hvn:-1000000≤vn∧vn≤1000000):TriP Tryz.prog 275 [.one (.val (.int .i64 k)),.agg [.val (.int .i64 tn),.val (.int .i64 cn),.val (.int .i64 rn),.val (.int .i64 vn)]] ([]) (FormD.sv (formP k tn cn rn vn)):=by
 obtain ⟨A,hA,FG⟩:=aF;unfold GenF at FG;simp only [formP,FormD.sv];obtain ⟨t1,ht1⟩:=nm (tn-1);obtain ⟨c1,hc1⟩:=nm (cn-1);obtain ⟨r1,hr1⟩:=nm (rn-1);obtain ⟨v1,hv1⟩:=nm (vn-1);simp only [←ht1,←hc1,←hr1,←hv1]
 have f0:A.sub .i64 cn 1=c1:=by
  rw [hA];rw [hc1];exact sub1 hcn
 have tbtn:=zfl tn htn
 try simp only [←ht1,←hc1,←hr1,←hv1] at tbtn
 have tbcn:=zfl cn hcn
 try simp only [←ht1,←hc1,←hr1,←hv1] at tbcn
 have tbrn:=zfl rn hrn
 try simp only [←ht1,←hc1,←hr1,←hv1] at tbrn
 have tbvn:=zfl vn hvn
 try simp only [←ht1,←hc1,←hr1,←hv1] at tbvn
 change Hid _ at hA ht1 hc1 hr1 hv1
 refine zad (D:=ords275) (fnO zh2 Tryz.func275) 118 (fun w0 own ps R hpl hR kE=>?_)
 refine kN ?_
 repeat' (conv=>arg 3;try cbv);first
  | ((with_reducible refine kC ?_);(first|refine nP [] tbtn ?_|refine nP [] tbcn ?_|refine nP [] tbrn ?_|refine nP [] tbvn ?_))
  | ((with_reducible refine kG ?_);refine zdk hR ⟨zh2,zaa⟩ 0 (by rfl) (by rfl) (by rfl) (by rfl) (by rfl) (by rfl) (by rfl) (Nat.le_refl 0) (by rfl) ⟨?_,by rfl⟩)
  | (((with_reducible show Eng.Good _ _ (Eng.St.mk (Eng.It.head _ _ _ _ _ _ _::_) _ _));refine zz5 ⟨zh2,zaa⟩ [⟨2,18,.call 314 [.one (.val (.int .i64 tn))] (belowS t1)⟩,⟨5,21,.call 314 [.one (.val (.int .i64 cn))] (belowS c1)⟩,⟨10,7,.mk (fun h=>.one (.ptr h 0 0)) (.own 276 (vals ti276.zero))⟩,⟨11,8,.mk (fun h=>.one (.ptr h 0 0)) (.own 276 (vals ti276.zero))⟩,⟨12,9,.mk (fun h=>.one (.ptr h 0 0)) (.own 276 (vals ti276.zero))⟩] (r2:=[(13,true),(14,true)]) rfl (by nofun) rfl rfl rfl rfl rfl ?_ ?_;rotate_left;refine kN ?_;(conv=>arg 3;cbv);rotate_left;(intro e he;simp only [List.mem_cons,List.not_mem_nil,or_false] at he;rcases he with rfl|rfl|rfl|rfl|rfl<;>first|exact zxq [] rfl rfl rfl rfl rfl (tbtn) (by rfl) (by rfl) trivial rfl rfl rfl rfl rfl rfl rfl rfl rfl|exact zxq [] rfl rfl rfl rfl rfl (tbcn) (by rfl) (by rfl) trivial rfl rfl rfl rfl rfl rfl rfl rfl rfl|exact zho rfl rfl rfl rfl rfl rfl rfl|exact zho rfl rfl rfl rfl rfl rfl rfl|exact zho rfl rfl rfl rfl rfl rfl rfl)))
  | ((with_reducible refine kG ?_);refine kO1 hR 0 ⟨?_,by rfl⟩)
  | simp only [*]
  | (split<;>(rename_i hsp;try simp only [FG] at hsp))
 all_goals (clear hR hpl FG f0 tbtn tbcn tbrn tbvn;replace hA:=hA.out;subst hA;simp_all [std,tvO])
theorem zpv (e:EnD) {tn cn rn vn:Int} (htn:-1000000≤tn∧tn≤1000000) (hcn:-1000000≤cn∧cn≤1000000) (hrn:-1000000≤rn∧rn≤1000000) (hvn:-1000000≤vn∧vn≤1000000):TriP Tryz.prog 207 [enS e,.agg [.val (.int .i64 tn),.val (.int .i64 cn),.val (.int .i64 rn),.val (.int .i64 vn)]] ([]) (vB (fitsP e tn cn rn vn)):=by
 obtain ⟨A,hA,FG⟩:=aF;unfold GenF at FG;simp only [fitsP];obtain ⟨W,hW⟩:=nm (inB);obtain ⟨F,hF⟩:=nm (formP e.kind tn cn rn vn);simp only [←hW,←hF]
 have tf:=zym e.kind htn hcn hrn hvn
 try simp only [←hW,←hF] at tf
 have th:=fun n lo hi=>zyo n lo hi
 try simp only [←hW,←hF] at th
 change Hid _ at hA hW hF
 refine zad (D:=ords207) (fnO zu3 Tryz.func207) 83 (fun w0 own ps R hpl hR kE=>?_)
 refine kN ?_
 repeat' (conv=>arg 3;try cbv);first
  | ((with_reducible refine kC ?_);(first|refine nP [] tf ?_|refine nP [] (th _ _ _) ?_))
  | ((with_reducible refine kG ?_);refine kO1 hR 0 ⟨?_,by rfl⟩)
  | simp only [*]
  | (split<;>(rename_i hsp;try simp only [FG] at hsp))
 all_goals (try clear hR hpl FG tf th;replace hA:=hA.out;subst hA;first|rfl|(simp_all [std];done)|(cases e;try dsimp only at *; (try simp_all [std])<;>(first|rfl|(intros;omega)|(split<;>first|omega|rfl|(simp_all;done))|grind)))
theorem zlt (e:EnD) :TriP Tryz.prog 206 [enS e] ([]) (vB (shapeP e)):=by
 obtain ⟨A,hA,FG⟩:=aF;unfold GenF at FG;simp only [shapeP];obtain ⟨B,hB⟩:=nm (fitsP e 32 16 4 30);simp only [←hB]
 have tf:=zpv e (tn:=32) (cn:=16) (rn:=4) (vn:=30) (by omega) (by omega) (by omega) (by omega)
 try simp only [←hB] at tf
 change Hid _ at hA hB
 refine zad (D:=ords206) (fnO zu4 Tryz.func206) 5 (fun w0 own ps R hpl hR kE=>?_)
 refine kN ?_
 repeat' (conv=>arg 3;try cbv);first
  | ((with_reducible refine kC ?_);refine nP [] tf ?_)
  | ((with_reducible refine kG ?_);refine kO1 hR 0 ⟨?_,by rfl⟩)
  | simp only [*]
  | (split<;>(rename_i hsp;try simp only [FG] at hsp))
 all_goals (try clear hR hpl FG tf;replace hA:=hA.out;subst hA;first|rfl|(simp_all [std];done)|(cases e;try dsimp only at *; (try simp_all [std])<;>(first|rfl|(intros;omega)|(split<;>first|omega|rfl|(simp_all;done))|grind)))
theorem zsr {c:CfgD} {K:CfgL} (hK:K=c.L) (e:EnD) (ok:CfgOk c):TriP Tryz.prog 125 [cfgS K c,enS e] (cfgM K) (vB (validP K c e)):=by
 obtain ⟨A,hA,FG⟩:=aF;unfold GenF at FG;simp only [validP];obtain ⟨V,hV⟩:=nm (shapeP e);obtain ⟨tn,htn⟩:=nm ((K.tl:Int));obtain ⟨cn,hcn⟩:=nm ((K.cl:Int));obtain ⟨vn,hvn⟩:=nm ((K.vl:Int));obtain ⟨B,hB⟩:=nm (fitsP e tn cn c.regions vn);simp only [←hV,←htn,←hcn,←hvn,←hB]
 have FC:=cfgF hA hK
 unfold CfgF at FC
 have f0:A.len K.tl=tn:=by
  rw [hA];rw [htn];rfl
 have f1:A.len K.cl=cn:=by
  rw [hA];rw [hcn];rfl
 have f2:A.len K.vl=vn:=by
  rw [hA];rw [hvn];rfl
 have ts:=zlt e
 try simp only [←hV,←htn,←hcn,←hvn,←hB] at ts
 have tf:=zpv e (tn:=K.tl) (cn:=K.cl) (rn:=c.regions) (vn:=K.vl) (by have:=ok.lens hK;omega) (by have:=ok.lens hK;omega) (by have:=ok.regions;omega) (by have:=ok.lens hK;omega)
 try simp only [←hV,←htn,←hcn,←hvn,←hB] at tf
 change Hid _ at hA hK hV htn hcn hvn hB
 refine zad (D:=ords125) (fnO zvg Tryz.func125) 21 (fun w0 own ps R hpl hR kE=>?_)
 refine kN ?_
 repeat' (conv=>arg 3;try cbv);first
  | ((with_reducible refine kC ?_);(first|refine nP [] ts ?_|refine nP [] tf ?_))
  | ((with_reducible refine kG ?_);refine kO1 hR 6 ⟨?_,by rfl⟩)
  | simp only [FG,FC, *]
  | (split<;>(rename_i hsp;try simp only [FG] at hsp))
 all_goals ((try simp only [f0,f1,f2]);try clear hR hpl FG FC f0 f1 f2 ts tf;replace hA:=hA.out;subst hA;first|rfl|(simp_all [std];done)|(cases e;cases K;cases c;try dsimp only at *; (try simp_all [std])<;>(first|rfl|(intros;omega)|(split<;>first|omega|rfl|(simp_all;done))|grind)))
end Go.Proofs.YtpigpajgjdcagaaGreat
