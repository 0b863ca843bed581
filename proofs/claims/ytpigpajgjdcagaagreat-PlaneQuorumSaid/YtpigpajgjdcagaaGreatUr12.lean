/- Parts. -/
import Derived.Test.YtpigpajgjdcagaaGreatUr9
import Derived.Test.YtpigpajgjdcagaaGreatUr11
set_option linter.unusedSimpArgs false
set_option linter.unusedVariables false
set_option maxRecDepth 100000
set_option maxHeartbeats 60000000
namespace Go.Proofs.YtpigpajgjdcagaaGreat
open Go.RowKit Eng
def PB (b:MB) (x:JD) (W:Nat→Prop):MB:=.obj (packO (fun Wk:Nat→Prop=>[b,.obj (oJ x Wk)]) W)
theorem zn5 (id n ro cm vo x0 x1 x2 x3 x4 y0 y1 y2 y3 y4:Int) (t v:Int) (lg:List (Int × EnD)) (D:List UInt8) (W:Nat→Prop) (T:Int) (hT:0≤t∧t<T) (src to index prev commit:Int) (ok:Bool) (a1:to=id) (a2:src≠id) (a3:0≤src∧src<n) (a4:1≤T∧T≤1073741824) (a5:0≤index∧index≤4096) (a6:0≤prev∧prev≤T) (a7:0≤commit∧commit≤4096) (hn5:n≤5) (hlb:lg.length≤4096) (h4:(atJ lg ((lg.length:Int)-1)).1<prev∨prev=(atJ lg ((lg.length:Int)-1)).1∧(lg.length:Int)≤index) (hb:D.length+300≤1000000):TriX Tryz.prog 175 [.one (.ptr 0 0 0),.agg [.val (iv 1),.val (iv src),.val (iv to),.val (iv T),.val (iv index),.val (iv prev),.val (iv commit),.val (.bool ok),.val (.slice none 0 0)]] ([PB (rb id n ro cm vo x0 x1 x2 x3 x4 y0 y1 y2 y3 y4) (⟨⟨t,v,lg⟩,D,(D.length:Int)⟩:JD) W]) (.one (.gsl 1 1)) (fun W'=>[PB (rb id n (1) cm vo x0 x1 x2 x3 x4 y0 y1 y2 y3 y4) (⟨⟨T,src,lg⟩,(D++(frameB sumN (Rec.term T (-1)).bytes))++(frameB sumN (Rec.term T src).bytes),(((D++(frameB sumN (Rec.term T (-1)).bytes))++(frameB sumN (Rec.term T src).bytes)).length:Int)⟩:JD) W',.grow 226 9 1 [iv 2,iv id,iv src,iv T,iv 0,iv 0,iv 0,.bool true,.slice none 0 0],.obj (poolO [atO (.grow 270 10 0 []) (0,0)])]):=by
 obtain ⟨A,hA,FG⟩:=aF
 have tpr:∀ W,TriP _ _ _ [_,.obj (oJ (⟨⟨t,v,lg⟩,D,(D.length:Int)⟩:JD) W)] _:=fun W=>zjo (id) (n) (ro) (cm) (vo) (x0) (x1) (x2) (x3) (x4) (y0) (y1) (y2) (y3) (y4) (⟨⟨t,v,lg⟩,D,(D.length:Int)⟩:JD) W src to T index prev commit ok a1 a2 a3 a4 a5 a6 a7
 have ttm:∀ W,TriP _ _ _ [_,.obj (oJ (⟨⟨t,v,lg⟩,D,(D.length:Int)⟩:JD) W)] _:=fun W=>zam (id) (n) (ro) (cm) (vo) (x0) (x1) (x2) (x3) (x4) (y0) (y1) (y2) (y3) (y4) (⟨⟨t,v,lg⟩,D,(D.length:Int)⟩:JD) W
 have trr:∀ W,TriX _ _ _ [_,.obj (oJ (⟨⟨t,v,lg⟩,D,(D.length:Int)⟩:JD) W)] _ (fun W'=>[_,.obj (oJ (⟨⟨T,-1,lg⟩,D++(frameB sumN (Rec.term T (-1)).bytes),((D++(frameB sumN (Rec.term T (-1)).bytes)).length:Int)⟩:JD) W')]):=fun W=>zdj (id) (n) (ro) (cm) (vo) (x0) (x1) (x2) (x3) (x4) (y0) (y1) (y2) (y3) (y4) t v lg D (D.length:Int) W T (-1) (by omega) (by omega) (by omega) (by omega) (Nat.le_trans (zan T (-1)) (by omega)) (by have:=zap _ (zan T (-1));omega)
 have thv:∀ W,TriX _ _ _ [_,.obj (oJ (⟨⟨T,-1,lg⟩,D++(frameB sumN (Rec.term T (-1)).bytes),((D++(frameB sumN (Rec.term T (-1)).bytes)).length:Int)⟩:JD) W)] _ (fun W'=>[_,.obj (oJ (⟨⟨T,src,lg⟩,(D++(frameB sumN (Rec.term T (-1)).bytes))++(frameB sumN (Rec.term T src).bytes),(((D++(frameB sumN (Rec.term T (-1)).bytes))++(frameB sumN (Rec.term T src).bytes)).length:Int)⟩:JD) W'),_,_]):=fun W=>zjp id n (1) cm vo x0 x1 x2 x3 x4 y0 y1 y2 y3 y4 T (-1) lg (D++(frameB sumN (Rec.term T (-1)).bytes)) _ W src to index prev commit ok hlb (by omega) (by omega) (.inl rfl) h4 (by have:=zap _ (zan T (-1));simp only [List.length_append] at *;omega)
 unfold PB;obtain ⟨OX,hOX⟩:=nm (oJ (⟨⟨t,v,lg⟩,D,(D.length:Int)⟩:JD));obtain ⟨O1,hO1⟩:=nm (oJ (⟨⟨T,-1,lg⟩,D++(frameB sumN (Rec.term T (-1)).bytes),((D++(frameB sumN (Rec.term T (-1)).bytes)).length:Int)⟩:JD));obtain ⟨O3,hO3⟩:=nm (oJ (⟨⟨T,src,lg⟩,(D++(frameB sumN (Rec.term T (-1)).bytes))++(frameB sumN (Rec.term T src).bytes),(((D++(frameB sumN (Rec.term T (-1)).bytes))++(frameB sumN (Rec.term T src).bytes)).length:Int)⟩:JD));simp only [←hO3] at thv ⊢;simp only [←hO1] at trr thv;simp only [←hOX] at tpr ttm trr ⊢
 try dsimp only at ttm
 unfold rb at *
 have f0:A.lt t T=true:=fT hA (by omega)
 have f1:A.eq 1 1=true∧A.eq 3 1=false∧A.eq 3 2=false∧A.eq 3 3=true:=by rw [hA];exact ⟨rfl,rfl,rfl,rfl⟩
 change Hid _ at hA hOX hO1 hO3 h4 a1
 refine zad (D:=ords175) (fnO zbf Tryz.func175) 41 (fun w0 own ps R hpl hR kE=>?_)
 refine zah 0 rfl rfl (by nofun) (fun Wj=>?_)
 (conv=>arg 3;cbv)
 refine kN ?_
 repeat' (conv=>arg 3;try cbv);first
  | ((with_reducible refine kC ?_);(first|refine nP [.same 0,.same 1] ((tpr _)) ?_|refine nP [.same 0,.same 1] ((ttm _)) ?_|(refine kX [.same 0,.same 1] ((trr _)) (fun W1=>?_);refine kN ?_)|(refine kX [.same 0,.same 1] (thv _) (fun W1=>?_);refine kN ?_)))
  | ((with_reducible refine kG ?_);refine kS1 hR 0 [1] [0,3,4] W1 (fun W'=>⟨rfl,W',rfl⟩))
  | simp only [*]
  | (split<;>(rename_i hsp;try simp only [FG] at hsp))
theorem zod (id n ro cm vo x0 x1 x2 x3 x4 y0 y1 y2 y3 y4:Int) (t v:Int) (lg:List (Int × EnD)) (D:List UInt8) (W:Nat→Prop) (T:Int) (hT:0≤t∧t<T) (src to prev c:Int) (ok:Bool) (i0:Nat) (F:List (Int × EnD)) (a1:to=id) (a2:src≠id) (a3:0≤src∧src<n) (a4:1≤T∧T≤1073741824) (a6:0≤prev∧prev≤T) (a7:0≤c∧c≤4096) (a8:prev=0↔(i0:Int)=0) (h10:∀ x∈F.drop i0,ShapeOk x.2) (h11:∀ x∈F.drop i0,max 1 prev≤x.1∧x.1≤T) (hs:F.Pairwise fun x y=>x.1≤y.1) (hlb:F.length≤4096) (hiF:i0≤F.length) (hpre:lg <+: F) (hcm:0≤cm∧cm≤lg.length) (hpos:∀ x∈F,1≤x.1) (hb:D.length+300+130 * F.length≤1000000) (hi:i0≤lg.length) (hp:0<i0→(atJ lg ((i0:Int)-1)).1=prev) (hne:lg.length<F.length) (hen:EntsOk T (F.drop lg.length)):TriX Tryz.prog 175 [.one (.ptr 0 0 0),.agg [.val (iv 3),.val (iv src),.val (iv to),.val (iv T),.val (iv (i0:Int)),.val (iv prev),.val (iv c),.val (.bool ok),.rsl 1 (F.drop i0).length]] ([PB (rb id n ro cm vo x0 x1 x2 x3 x4 y0 y1 y2 y3 y4) (⟨⟨t,v,lg⟩,D,(D.length:Int)⟩:JD) W,.rs (F.drop i0).length (logV (F.drop i0))]) (.one (.gsl 2 1)) (fun W'=>[PB (rb id n (1) ((max cm (min c (F.length:Int)))) vo x0 x1 x2 x3 x4 y0 y1 y2 y3 y4) (⟨⟨T,-1,F⟩,(D++(frameB sumN (Rec.term T (-1)).bytes))++entsD (F.drop lg.length),(((D++(frameB sumN (Rec.term T (-1)).bytes))++entsD (F.drop lg.length)).length:Int)⟩:JD) W',.rs (F.drop i0).length (logV (F.drop i0)),.grow 226 9 1 [iv 4,iv id,iv src,iv T,iv (F.length:Int),iv 0,iv 0,.bool true,.slice none 0 0],.obj (poolO [atO (.grow 270 10 0 []) (0,0)])]):=by
 obtain ⟨A,hA,FG⟩:=aF
 have hdl:(F.drop i0).length=F.length-i0:=List.length_drop
 have hlF:=hpre.length_le
 have hfs:=zap _ (zan T (-1))
 have tpr:∀ W,TriP _ _ _ [_,.obj (oJ (⟨⟨t,v,lg⟩,D,(D.length:Int)⟩:JD) W),_] _:=fun W=>zcp (id) (n) (ro) (cm) (vo) (x0) (x1) (x2) (x3) (x4) (y0) (y1) (y2) (y3) (y4) (⟨⟨t,v,lg⟩,D,(D.length:Int)⟩:JD) W src to T (i0:Int) prev c ok (F.drop i0) a1 a2 a3 a4 (by omega) a6 a7 a8 (by omega) h10 h11 (hs.sublist (List.drop_sublist _ _))
 have ttm:∀ W,TriP _ _ _ [_,.obj (oJ (⟨⟨t,v,lg⟩,D,(D.length:Int)⟩:JD) W)] _:=fun W=>zam (id) (n) (ro) (cm) (vo) (x0) (x1) (x2) (x3) (x4) (y0) (y1) (y2) (y3) (y4) (⟨⟨t,v,lg⟩,D,(D.length:Int)⟩:JD) W
 have trr:∀ W,TriX _ _ _ [_,.obj (oJ (⟨⟨t,v,lg⟩,D,(D.length:Int)⟩:JD) W)] _ (fun W'=>[_,.obj (oJ (⟨⟨T,-1,lg⟩,D++(frameB sumN (Rec.term T (-1)).bytes),((D++(frameB sumN (Rec.term T (-1)).bytes)).length:Int)⟩:JD) W')]):=fun W=>zdj (id) (n) (ro) (cm) (vo) (x0) (x1) (x2) (x3) (x4) (y0) (y1) (y2) (y3) (y4) t v lg D (D.length:Int) W T (-1) (by omega) (by omega) (by omega) (by omega) (Nat.le_trans (zan T (-1)) (by omega)) (by have:=zap _ (zan T (-1));omega)
 have thv:∀ W,TriX _ _ _ [_,.obj (oJ (⟨⟨T,-1,lg⟩,D++(frameB sumN (Rec.term T (-1)).bytes),((D++(frameB sumN (Rec.term T (-1)).bytes)).length:Int)⟩:JD) W),_] _ (fun W'=>[_,.obj (oJ (⟨⟨T,-1,F⟩,(D++(frameB sumN (Rec.term T (-1)).bytes))++entsD (F.drop lg.length),(((D++(frameB sumN (Rec.term T (-1)).bytes))++entsD (F.drop lg.length)).length:Int)⟩:JD) W'),_,_,_]):=fun W=>zjs id n cm vo x0 x1 x2 x3 x4 y0 y1 y2 y3 y4 T (-1) lg F (D++(frameB sumN (Rec.term T (-1)).bytes)) W prev src to ok i0 c hlb hpre hi hp a7 hcm hpos hne hen hs (by simp only [List.length_append,List.length_drop];omega)
 unfold PB;obtain ⟨nn,hnn⟩:=nm ((F.drop i0).length);obtain ⟨LV,hLV⟩:=nm (logV (F.drop i0));obtain ⟨z0,hz0⟩:=nm ((i0:Int));obtain ⟨C2,hC2⟩:=nm ((max cm (min c (F.length:Int))));obtain ⟨eI,heI⟩:=nm ((F.length:Int));obtain ⟨OX,hOX⟩:=nm (oJ (⟨⟨t,v,lg⟩,D,(D.length:Int)⟩:JD));obtain ⟨O1,hO1⟩:=nm (oJ (⟨⟨T,-1,lg⟩,D++(frameB sumN (Rec.term T (-1)).bytes),((D++(frameB sumN (Rec.term T (-1)).bytes)).length:Int)⟩:JD));obtain ⟨O3,hO3⟩:=nm (oJ (⟨⟨T,-1,F⟩,(D++(frameB sumN (Rec.term T (-1)).bytes))++entsD (F.drop lg.length),(((D++(frameB sumN (Rec.term T (-1)).bytes))++entsD (F.drop lg.length)).length:Int)⟩:JD));simp only [←hO3] at thv ⊢;simp only [←hO1] at trr thv;simp only [←hOX] at tpr ttm trr ⊢
 try dsimp only at ttm
 try dsimp only at thv
 simp only [←hnn,←hLV] at tpr thv ⊢;simp only [←hC2] at thv ⊢;simp only [←heI] at thv ⊢;simp only [←hz0] at tpr thv ⊢;unfold rb at *
 have f0:A.lt t T=true:=fT hA (by omega)
 have f1:A.eq 1 1=true∧A.eq 3 1=false∧A.eq 3 2=false∧A.eq 3 3=true:=by rw [hA];exact ⟨rfl,rfl,rfl,rfl⟩
 change Hid _ at hA hnn hLV hz0 hC2 heI hOX hO1 hO3 a1 hpre hpos hs h10 h11 a8 hen hp
 refine zad (D:=ords175) (fnO zbf Tryz.func175) 41 (fun w0 own ps R hpl hR kE=>?_)
 refine zah 0 rfl rfl (by nofun) (fun Wj=>?_)
 (conv=>arg 3;cbv)
 refine kN ?_
 repeat' (conv=>arg 3;try cbv);first
  | ((with_reducible refine kC ?_);(first|refine nP [.same 0,.same 2,.rd (.rsl 1 nn)] (tpr _) ?_|refine nP [.same 0,.same 2] ((ttm _)) ?_|(refine kX [.same 0,.same 2] ((trr _)) (fun W1=>?_);refine kN ?_)|(refine kX [.same 0,.same 2,.rd (.rsl 1 nn)] (thv _) (fun W1=>?_);refine kN ?_)))
  | ((with_reducible refine kG ?_);refine kS1 hR 0 [2] [0,1,4,5] W1 (fun W'=>⟨rfl,W',rfl⟩))
  | simp only [*]
  | (split<;>(rename_i hsp;try simp only [FG] at hsp))
theorem zob (id n ro cm vo x0 x1 x2 x3 x4 y0 y1 y2 y3 y4:Int) (t v:Int) (lg:List (Int × EnD)) (D:List UInt8) (W:Nat→Prop) (T:Int) (hT:0≤t∧t<T) (src to prev c:Int) (ok:Bool) (i0:Nat) (F:List (Int × EnD)) (a1:to=id) (a2:src≠id) (a3:0≤src∧src<n) (a4:1≤T∧T≤1073741824) (a6:0≤prev∧prev≤T) (a7:0≤c∧c≤4096) (a8:prev=0↔(i0:Int)=0) (h10:∀ x∈F.drop i0,ShapeOk x.2) (h11:∀ x∈F.drop i0,max 1 prev≤x.1∧x.1≤T) (hs:F.Pairwise fun x y=>x.1≤y.1) (hlb:F.length≤4096) (hiF:i0≤F.length) (hpre:lg <+: F) (hcm:0≤cm∧cm≤lg.length) (hpos:∀ x∈F,1≤x.1) (hb:D.length+300+130 * F.length≤1000000) (hi:i0≤lg.length) (hp:0<i0→(atJ lg ((i0:Int)-1)).1=prev) (heq:lg.length=F.length):TriX Tryz.prog 175 [.one (.ptr 0 0 0),.agg [.val (iv 3),.val (iv src),.val (iv to),.val (iv T),.val (iv (i0:Int)),.val (iv prev),.val (iv c),.val (.bool ok),.rsl 1 (F.drop i0).length]] ([PB (rb id n ro cm vo x0 x1 x2 x3 x4 y0 y1 y2 y3 y4) (⟨⟨t,v,lg⟩,D,(D.length:Int)⟩:JD) W,.rs (F.drop i0).length (logV (F.drop i0))]) (.one (.gsl 2 1)) (fun W'=>[PB (rb id n (1) ((max cm (min c (F.length:Int)))) vo x0 x1 x2 x3 x4 y0 y1 y2 y3 y4) (⟨⟨T,-1,F⟩,(D++(frameB sumN (Rec.term T (-1)).bytes)),((D++(frameB sumN (Rec.term T (-1)).bytes)).length:Int)⟩:JD) W',.rs (F.drop i0).length (logV (F.drop i0)),.grow 226 9 1 [iv 4,iv id,iv src,iv T,iv (F.length:Int),iv 0,iv 0,.bool true,.slice none 0 0],.obj (poolO [atO (.grow 270 10 0 []) (0,0)])]):=by
 obtain ⟨A,hA,FG⟩:=aF
 have hdl:(F.drop i0).length=F.length-i0:=List.length_drop
 have hlF:=hpre.length_le
 have hfs:=zap _ (zan T (-1))
 have tpr:∀ W,TriP _ _ _ [_,.obj (oJ (⟨⟨t,v,lg⟩,D,(D.length:Int)⟩:JD) W),_] _:=fun W=>zcp (id) (n) (ro) (cm) (vo) (x0) (x1) (x2) (x3) (x4) (y0) (y1) (y2) (y3) (y4) (⟨⟨t,v,lg⟩,D,(D.length:Int)⟩:JD) W src to T (i0:Int) prev c ok (F.drop i0) a1 a2 a3 a4 (by omega) a6 a7 a8 (by omega) h10 h11 (hs.sublist (List.drop_sublist _ _))
 have ttm:∀ W,TriP _ _ _ [_,.obj (oJ (⟨⟨t,v,lg⟩,D,(D.length:Int)⟩:JD) W)] _:=fun W=>zam (id) (n) (ro) (cm) (vo) (x0) (x1) (x2) (x3) (x4) (y0) (y1) (y2) (y3) (y4) (⟨⟨t,v,lg⟩,D,(D.length:Int)⟩:JD) W
 have trr:∀ W,TriX _ _ _ [_,.obj (oJ (⟨⟨t,v,lg⟩,D,(D.length:Int)⟩:JD) W)] _ (fun W'=>[_,.obj (oJ (⟨⟨T,-1,lg⟩,D++(frameB sumN (Rec.term T (-1)).bytes),((D++(frameB sumN (Rec.term T (-1)).bytes)).length:Int)⟩:JD) W')]):=fun W=>zdj (id) (n) (ro) (cm) (vo) (x0) (x1) (x2) (x3) (x4) (y0) (y1) (y2) (y3) (y4) t v lg D (D.length:Int) W T (-1) (by omega) (by omega) (by omega) (by omega) (Nat.le_trans (zan T (-1)) (by omega)) (by have:=zap _ (zan T (-1));omega)
 have thv:∀ W,TriM _ _ _ [_,.obj (oJ (⟨⟨T,-1,lg⟩,D++(frameB sumN (Rec.term T (-1)).bytes),((D++(frameB sumN (Rec.term T (-1)).bytes)).length:Int)⟩:JD) W),_] _ [_,.obj (oJ (⟨⟨T,-1,F⟩,(D++(frameB sumN (Rec.term T (-1)).bytes)),((D++(frameB sumN (Rec.term T (-1)).bytes)).length:Int)⟩:JD) W),_,_,_]:=fun W=>zjr id n cm vo x0 x1 x2 x3 x4 y0 y1 y2 y3 y4 T (-1) lg F (D++(frameB sumN (Rec.term T (-1)).bytes)) W prev src to ok i0 c hlb hpre hi hp a7 hcm hpos heq
 unfold PB;obtain ⟨nn,hnn⟩:=nm ((F.drop i0).length);obtain ⟨LV,hLV⟩:=nm (logV (F.drop i0));obtain ⟨z0,hz0⟩:=nm ((i0:Int));obtain ⟨C2,hC2⟩:=nm ((max cm (min c (F.length:Int))));obtain ⟨eI,heI⟩:=nm ((F.length:Int));obtain ⟨OX,hOX⟩:=nm (oJ (⟨⟨t,v,lg⟩,D,(D.length:Int)⟩:JD));obtain ⟨O1,hO1⟩:=nm (oJ (⟨⟨T,-1,lg⟩,D++(frameB sumN (Rec.term T (-1)).bytes),((D++(frameB sumN (Rec.term T (-1)).bytes)).length:Int)⟩:JD));obtain ⟨O3,hO3⟩:=nm (oJ (⟨⟨T,-1,F⟩,(D++(frameB sumN (Rec.term T (-1)).bytes)),((D++(frameB sumN (Rec.term T (-1)).bytes)).length:Int)⟩:JD));simp only [←hO3] at thv ⊢;simp only [←hO1] at trr thv;simp only [←hOX] at tpr ttm trr ⊢
 try dsimp only at ttm
 try dsimp only at thv
 simp only [←hnn,←hLV] at tpr thv ⊢;simp only [←hC2] at thv ⊢;simp only [←heI] at thv ⊢;simp only [←hz0] at tpr thv ⊢;unfold rb at *
 have f0:A.lt t T=true:=fT hA (by omega)
 have f1:A.eq 1 1=true∧A.eq 3 1=false∧A.eq 3 2=false∧A.eq 3 3=true:=by rw [hA];exact ⟨rfl,rfl,rfl,rfl⟩
 change Hid _ at hA hnn hLV hz0 hC2 heI hOX hO1 hO3 a1 hpre hpos hs h10 h11 a8 hp
 refine zad (D:=ords175) (fnO zbf Tryz.func175) 41 (fun w0 own ps R hpl hR kE=>?_)
 refine zah 0 rfl rfl (by nofun) (fun Wj=>?_)
 (conv=>arg 3;cbv)
 refine kN ?_
 repeat' (conv=>arg 3;try cbv);first
  | ((with_reducible refine kC ?_);(first|refine nP [.same 0,.same 2,.rd (.rsl 1 nn)] (tpr _) ?_|refine nP [.same 0,.same 2] ((ttm _)) ?_|(refine kX [.same 0,.same 2] ((trr _)) (fun W1=>?_);refine kN ?_)|refine nM [.same 0,.same 2,.rd (.rsl 1 nn)] (thv _) ?_))
  | ((with_reducible refine kG ?_);refine kS1 hR 0 [2] [0,1,4,5] W1 (fun W'=>⟨rfl,W',rfl⟩))
  | simp only [*]
  | (split<;>(rename_i hsp;try simp only [FG] at hsp))
theorem zn9 (id n ro cm vo x0 x1 x2 x3 x4 y0 y1 y2 y3 y4:Int) (t v:Int) (lg:List (Int × EnD)) (D:List UInt8) (W:Nat→Prop) (T:Int) (hT:0≤t∧t<T) (src to prev c:Int) (ok:Bool) (i0:Nat) (F:List (Int × EnD)) (a1:to=id) (a2:src≠id) (a3:0≤src∧src<n) (a4:1≤T∧T≤1073741824) (a6:0≤prev∧prev≤T) (a7:0≤c∧c≤4096) (a8:prev=0↔(i0:Int)=0) (h10:∀ x∈F.drop i0,ShapeOk x.2) (h11:∀ x∈F.drop i0,max 1 prev≤x.1∧x.1≤T) (hs:F.Pairwise fun x y=>x.1≤y.1) (hlb:F.length≤4096) (hiF:i0≤F.length) (hpre:lg <+: F) (hcm:0≤cm∧cm≤lg.length) (hpos:∀ x∈F,1≤x.1) (hb:D.length+300+130 * F.length≤1000000) (hi:lg.length<i0):TriX Tryz.prog 175 [.one (.ptr 0 0 0),.agg [.val (iv 3),.val (iv src),.val (iv to),.val (iv T),.val (iv (i0:Int)),.val (iv prev),.val (iv c),.val (.bool ok),.rsl 1 (F.drop i0).length]] ([PB (rb id n ro cm vo x0 x1 x2 x3 x4 y0 y1 y2 y3 y4) (⟨⟨t,v,lg⟩,D,(D.length:Int)⟩:JD) W,.rs (F.drop i0).length (logV (F.drop i0))]) (.one (.gsl 2 1)) (fun W'=>[PB (rb id n (1) cm vo x0 x1 x2 x3 x4 y0 y1 y2 y3 y4) (⟨⟨T,-1,lg⟩,D++(frameB sumN (Rec.term T (-1)).bytes),((D++(frameB sumN (Rec.term T (-1)).bytes)).length:Int)⟩:JD) W',.rs (F.drop i0).length (logV (F.drop i0)),.grow 226 9 1 [iv 4,iv id,iv src,iv T,iv (lg.length:Int),iv 0,iv 0,.bool false,.slice none 0 0],.obj (poolO [atO (.grow 270 10 0 []) (0,0)])]):=by
 obtain ⟨A,hA,FG⟩:=aF
 have hdl:(F.drop i0).length=F.length-i0:=List.length_drop
 have hlF:=hpre.length_le
 have hfs:=zap _ (zan T (-1))
 have tpr:∀ W,TriP _ _ _ [_,.obj (oJ (⟨⟨t,v,lg⟩,D,(D.length:Int)⟩:JD) W),_] _:=fun W=>zcp (id) (n) (ro) (cm) (vo) (x0) (x1) (x2) (x3) (x4) (y0) (y1) (y2) (y3) (y4) (⟨⟨t,v,lg⟩,D,(D.length:Int)⟩:JD) W src to T (i0:Int) prev c ok (F.drop i0) a1 a2 a3 a4 (by omega) a6 a7 a8 (by omega) h10 h11 (hs.sublist (List.drop_sublist _ _))
 have ttm:∀ W,TriP _ _ _ [_,.obj (oJ (⟨⟨t,v,lg⟩,D,(D.length:Int)⟩:JD) W)] _:=fun W=>zam (id) (n) (ro) (cm) (vo) (x0) (x1) (x2) (x3) (x4) (y0) (y1) (y2) (y3) (y4) (⟨⟨t,v,lg⟩,D,(D.length:Int)⟩:JD) W
 have trr:∀ W,TriX _ _ _ [_,.obj (oJ (⟨⟨t,v,lg⟩,D,(D.length:Int)⟩:JD) W)] _ (fun W'=>[_,.obj (oJ (⟨⟨T,-1,lg⟩,D++(frameB sumN (Rec.term T (-1)).bytes),((D++(frameB sumN (Rec.term T (-1)).bytes)).length:Int)⟩:JD) W')]):=fun W=>zdj (id) (n) (ro) (cm) (vo) (x0) (x1) (x2) (x3) (x4) (y0) (y1) (y2) (y3) (y4) t v lg D (D.length:Int) W T (-1) (by omega) (by omega) (by omega) (by omega) (Nat.le_trans (zan T (-1)) (by omega)) (by have:=zap _ (zan T (-1));omega)
 have thv:∀ W,TriM _ _ _ [_,.obj (oJ (⟨⟨T,-1,lg⟩,D++(frameB sumN (Rec.term T (-1)).bytes),((D++(frameB sumN (Rec.term T (-1)).bytes)).length:Int)⟩:JD) W),_] _ [_,.obj (oJ (⟨⟨T,-1,lg⟩,D++(frameB sumN (Rec.term T (-1)).bytes),((D++(frameB sumN (Rec.term T (-1)).bytes)).length:Int)⟩:JD) W),_,_,_]:=fun W=>zjq id n cm vo x0 x1 x2 x3 x4 y0 y1 y2 y3 y4 (⟨⟨T,-1,lg⟩,D++(frameB sumN (Rec.term T (-1)).bytes),((D++(frameB sumN (Rec.term T (-1)).bytes)).length:Int)⟩:JD) W src to prev c ok i0 (F.drop i0).length (logV (F.drop i0)) hi (Nat.le_trans hlF hlb) (Nat.le_trans hiF hlb)
 unfold PB;obtain ⟨nn,hnn⟩:=nm ((F.drop i0).length);obtain ⟨LV,hLV⟩:=nm (logV (F.drop i0));obtain ⟨z0,hz0⟩:=nm ((i0:Int));obtain ⟨eI,heI⟩:=nm ((lg.length:Int));obtain ⟨OX,hOX⟩:=nm (oJ (⟨⟨t,v,lg⟩,D,(D.length:Int)⟩:JD));obtain ⟨O1,hO1⟩:=nm (oJ (⟨⟨T,-1,lg⟩,D++(frameB sumN (Rec.term T (-1)).bytes),((D++(frameB sumN (Rec.term T (-1)).bytes)).length:Int)⟩:JD));simp only [←hO1] at trr thv ⊢;simp only [←hOX] at tpr ttm trr ⊢
 try dsimp only at ttm
 try dsimp only at thv
 simp only [←hnn,←hLV] at tpr thv ⊢;simp only [←heI] at thv ⊢;simp only [←hz0] at tpr thv ⊢;unfold rb at *
 have f0:A.lt t T=true:=fT hA (by omega)
 have f1:A.eq 1 1=true∧A.eq 3 1=false∧A.eq 3 2=false∧A.eq 3 3=true:=by rw [hA];exact ⟨rfl,rfl,rfl,rfl⟩
 change Hid _ at hA hnn hLV hz0 heI hOX hO1 a1 hpre hpos hs h10 h11 a8
 refine zad (D:=ords175) (fnO zbf Tryz.func175) 41 (fun w0 own ps R hpl hR kE=>?_)
 refine zah 0 rfl rfl (by nofun) (fun Wj=>?_)
 (conv=>arg 3;cbv)
 refine kN ?_
 repeat' (conv=>arg 3;try cbv);first
  | ((with_reducible refine kC ?_);(first|refine nP [.same 0,.same 2,.rd (.rsl 1 nn)] (tpr _) ?_|refine nP [.same 0,.same 2] ((ttm _)) ?_|(refine kX [.same 0,.same 2] ((trr _)) (fun W1=>?_);refine kN ?_)|refine nM [.same 0,.same 2,.rd (.rsl 1 nn)] (thv _) ?_))
  | ((with_reducible refine kG ?_);refine kS1 hR 0 [2] [0,1,4,5] W1 (fun W'=>⟨rfl,W',rfl⟩))
  | simp only [*]
  | (split<;>(rename_i hsp;try simp only [FG] at hsp))
theorem zn6 (id n cm vo x0 x1 x2 x3 x4 y0 y1 y2 y3 y4:Int) (t v:Int) (lg:List (Int × EnD)) (D:List UInt8) (W:Nat→Prop) (src to index prev commit:Int) (ok:Bool) (a1:to=id) (a2:src≠id) (a3:0≤src∧src<n) (a4:1≤t∧t≤1073741824) (a5:0≤index∧index≤4096) (a6:0≤prev∧prev≤t) (a7:0≤commit∧commit≤4096) (hn5:n≤5) (hlb:lg.length≤4096) (h3:v=-1∨v=src) (h4:(atJ lg ((lg.length:Int)-1)).1<prev∨prev=(atJ lg ((lg.length:Int)-1)).1∧(lg.length:Int)≤index) (hb:D.length+300≤1000000):TriX Tryz.prog 175 [.one (.ptr 0 0 0),.agg [.val (iv 1),.val (iv src),.val (iv to),.val (iv t),.val (iv index),.val (iv prev),.val (iv commit),.val (.bool ok),.val (.slice none 0 0)]] ([PB (rb id n (1) cm vo x0 x1 x2 x3 x4 y0 y1 y2 y3 y4) (⟨⟨t,v,lg⟩,D,(D.length:Int)⟩:JD) W]) (.one (.gsl 1 1)) (fun W'=>[PB (rb id n (1) cm vo x0 x1 x2 x3 x4 y0 y1 y2 y3 y4) (⟨⟨t,src,lg⟩,D++(frameB sumN (Rec.term t src).bytes),((D++(frameB sumN (Rec.term t src).bytes)).length:Int)⟩:JD) W',.grow 226 9 1 [iv 2,iv id,iv src,iv t,iv 0,iv 0,iv 0,.bool true,.slice none 0 0],.obj (poolO [atO (.grow 270 10 0 []) (0,0)])]):=by
 obtain ⟨A,hA,FG⟩:=aF
 have tpr:∀ W,TriP _ _ _ [_,.obj (oJ (⟨⟨t,v,lg⟩,D,(D.length:Int)⟩:JD) W)] _:=fun W=>zjo (id) (n) (1) (cm) (vo) (x0) (x1) (x2) (x3) (x4) (y0) (y1) (y2) (y3) (y4) (⟨⟨t,v,lg⟩,D,(D.length:Int)⟩:JD) W src to t index prev commit ok a1 a2 a3 a4 a5 a6 a7
 have ttm:∀ W,TriP _ _ _ [_,.obj (oJ (⟨⟨t,v,lg⟩,D,(D.length:Int)⟩:JD) W)] _:=fun W=>zam (id) (n) (1) (cm) (vo) (x0) (x1) (x2) (x3) (x4) (y0) (y1) (y2) (y3) (y4) (⟨⟨t,v,lg⟩,D,(D.length:Int)⟩:JD) W
 have thv:∀ W,TriX _ _ _ [_,.obj (oJ (⟨⟨t,v,lg⟩,D,(D.length:Int)⟩:JD) W)] _ (fun W'=>[_,.obj (oJ (⟨⟨t,src,lg⟩,D++(frameB sumN (Rec.term t src).bytes),((D++(frameB sumN (Rec.term t src).bytes)).length:Int)⟩:JD) W'),_,_]):=fun W=>zjp id n (1) cm vo x0 x1 x2 x3 x4 y0 y1 y2 y3 y4 t (v) lg D _ W src to index prev commit ok hlb (by omega) (by omega) h3 h4 (by omega)
 unfold PB;obtain ⟨OX,hOX⟩:=nm (oJ (⟨⟨t,v,lg⟩,D,(D.length:Int)⟩:JD));obtain ⟨O3,hO3⟩:=nm (oJ (⟨⟨t,src,lg⟩,D++(frameB sumN (Rec.term t src).bytes),((D++(frameB sumN (Rec.term t src).bytes)).length:Int)⟩:JD));simp only [←hO3] at thv ⊢;simp only [←hOX] at tpr ttm thv ⊢
 try dsimp only at ttm
 unfold rb at *
 have f0:A.lt t t=false:=fF hA (by omega)
 have f1:A.eq 1 1=true∧A.eq 3 1=false∧A.eq 3 2=false∧A.eq 3 3=true:=by rw [hA];exact ⟨rfl,rfl,rfl,rfl⟩
 change Hid _ at hA hOX hO3 h4 a1 h3
 refine zad (D:=ords175) (fnO zbf Tryz.func175) 41 (fun w0 own ps R hpl hR kE=>?_)
 refine zah 0 rfl rfl (by nofun) (fun Wj=>?_)
 (conv=>arg 3;cbv)
 refine kN ?_
 repeat' (conv=>arg 3;try cbv);first
  | ((with_reducible refine kC ?_);(first|refine nP [.same 0,.same 1] ((tpr _)) ?_|refine nP [.same 0,.same 1] ((ttm _)) ?_|(refine kX [.same 0,.same 1] (thv _) (fun W1=>?_);refine kN ?_)))
  | ((with_reducible refine kG ?_);refine kS1 hR 0 [1] [0,3,4] W1 (fun W'=>⟨rfl,W',rfl⟩))
  | simp only [*]
  | (split<;>(rename_i hsp;try simp only [FG] at hsp))
theorem zoe (id n cm vo x0 x1 x2 x3 x4 y0 y1 y2 y3 y4:Int) (t v:Int) (lg:List (Int × EnD)) (D:List UInt8) (W:Nat→Prop) (src to prev c:Int) (ok:Bool) (i0:Nat) (F:List (Int × EnD)) (a1:to=id) (a2:src≠id) (a3:0≤src∧src<n) (a4:1≤t∧t≤1073741824) (a6:0≤prev∧prev≤t) (a7:0≤c∧c≤4096) (a8:prev=0↔(i0:Int)=0) (h10:∀ x∈F.drop i0,ShapeOk x.2) (h11:∀ x∈F.drop i0,max 1 prev≤x.1∧x.1≤t) (hs:F.Pairwise fun x y=>x.1≤y.1) (hlb:F.length≤4096) (hiF:i0≤F.length) (hpre:lg <+: F) (hcm:0≤cm∧cm≤lg.length) (hpos:∀ x∈F,1≤x.1) (hb:D.length+300+130 * F.length≤1000000) (hi:i0≤lg.length) (hp:0<i0→(atJ lg ((i0:Int)-1)).1=prev) (hne:lg.length<F.length) (hen:EntsOk t (F.drop lg.length)):TriX Tryz.prog 175 [.one (.ptr 0 0 0),.agg [.val (iv 3),.val (iv src),.val (iv to),.val (iv t),.val (iv (i0:Int)),.val (iv prev),.val (iv c),.val (.bool ok),.rsl 1 (F.drop i0).length]] ([PB (rb id n (1) cm vo x0 x1 x2 x3 x4 y0 y1 y2 y3 y4) (⟨⟨t,v,lg⟩,D,(D.length:Int)⟩:JD) W,.rs (F.drop i0).length (logV (F.drop i0))]) (.one (.gsl 2 1)) (fun W'=>[PB (rb id n (1) ((max cm (min c (F.length:Int)))) vo x0 x1 x2 x3 x4 y0 y1 y2 y3 y4) (⟨⟨t,v,F⟩,D++entsD (F.drop lg.length),((D++entsD (F.drop lg.length)).length:Int)⟩:JD) W',.rs (F.drop i0).length (logV (F.drop i0)),.grow 226 9 1 [iv 4,iv id,iv src,iv t,iv (F.length:Int),iv 0,iv 0,.bool true,.slice none 0 0],.obj (poolO [atO (.grow 270 10 0 []) (0,0)])]):=by
 obtain ⟨A,hA,FG⟩:=aF
 have hdl:(F.drop i0).length=F.length-i0:=List.length_drop
 have hlF:=hpre.length_le
 have hfs:=zap _ (zan t (-1))
 have tpr:∀ W,TriP _ _ _ [_,.obj (oJ (⟨⟨t,v,lg⟩,D,(D.length:Int)⟩:JD) W),_] _:=fun W=>zcp (id) (n) (1) (cm) (vo) (x0) (x1) (x2) (x3) (x4) (y0) (y1) (y2) (y3) (y4) (⟨⟨t,v,lg⟩,D,(D.length:Int)⟩:JD) W src to t (i0:Int) prev c ok (F.drop i0) a1 a2 a3 a4 (by omega) a6 a7 a8 (by omega) h10 h11 (hs.sublist (List.drop_sublist _ _))
 have ttm:∀ W,TriP _ _ _ [_,.obj (oJ (⟨⟨t,v,lg⟩,D,(D.length:Int)⟩:JD) W)] _:=fun W=>zam (id) (n) (1) (cm) (vo) (x0) (x1) (x2) (x3) (x4) (y0) (y1) (y2) (y3) (y4) (⟨⟨t,v,lg⟩,D,(D.length:Int)⟩:JD) W
 have thv:∀ W,TriX _ _ _ [_,.obj (oJ (⟨⟨t,v,lg⟩,D,(D.length:Int)⟩:JD) W),_] _ (fun W'=>[_,.obj (oJ (⟨⟨t,v,F⟩,D++entsD (F.drop lg.length),((D++entsD (F.drop lg.length)).length:Int)⟩:JD) W'),_,_,_]):=fun W=>zjs id n cm vo x0 x1 x2 x3 x4 y0 y1 y2 y3 y4 t (v) lg F D W prev src to ok i0 c hlb hpre hi hp a7 hcm hpos hne hen hs (by simp only [List.length_drop];omega)
 unfold PB;obtain ⟨nn,hnn⟩:=nm ((F.drop i0).length);obtain ⟨LV,hLV⟩:=nm (logV (F.drop i0));obtain ⟨z0,hz0⟩:=nm ((i0:Int));obtain ⟨C2,hC2⟩:=nm ((max cm (min c (F.length:Int))));obtain ⟨eI,heI⟩:=nm ((F.length:Int));obtain ⟨OX,hOX⟩:=nm (oJ (⟨⟨t,v,lg⟩,D,(D.length:Int)⟩:JD));obtain ⟨O3,hO3⟩:=nm (oJ (⟨⟨t,v,F⟩,D++entsD (F.drop lg.length),((D++entsD (F.drop lg.length)).length:Int)⟩:JD));simp only [←hO3] at thv ⊢;simp only [←hOX] at tpr ttm thv ⊢
 try dsimp only at ttm
 try dsimp only at thv
 simp only [←hnn,←hLV] at tpr thv ⊢;simp only [←hC2] at thv ⊢;simp only [←heI] at thv ⊢;simp only [←hz0] at tpr thv ⊢;unfold rb at *
 have f0:A.lt t t=false:=fF hA (by omega)
 have f1:A.eq 1 1=true∧A.eq 3 1=false∧A.eq 3 2=false∧A.eq 3 3=true:=by rw [hA];exact ⟨rfl,rfl,rfl,rfl⟩
 change Hid _ at hA hnn hLV hz0 hC2 heI hOX hO3 a1 hpre hpos hs h10 h11 a8 hen hp
 refine zad (D:=ords175) (fnO zbf Tryz.func175) 41 (fun w0 own ps R hpl hR kE=>?_)
 refine zah 0 rfl rfl (by nofun) (fun Wj=>?_)
 (conv=>arg 3;cbv)
 refine kN ?_
 repeat' (conv=>arg 3;try cbv);first
  | ((with_reducible refine kC ?_);(first|refine nP [.same 0,.same 2,.rd (.rsl 1 nn)] (tpr _) ?_|refine nP [.same 0,.same 2] ((ttm _)) ?_|(refine kX [.same 0,.same 2,.rd (.rsl 1 nn)] (thv _) (fun W1=>?_);refine kN ?_)))
  | ((with_reducible refine kG ?_);refine kS1 hR 0 [2] [0,1,4,5] W1 (fun W'=>⟨rfl,W',rfl⟩))
  | simp only [*]
  | (split<;>(rename_i hsp;try simp only [FG] at hsp))
theorem zoc (id n cm vo x0 x1 x2 x3 x4 y0 y1 y2 y3 y4:Int) (t v:Int) (lg:List (Int × EnD)) (D:List UInt8) (W:Nat→Prop) (src to prev c:Int) (ok:Bool) (i0:Nat) (F:List (Int × EnD)) (a1:to=id) (a2:src≠id) (a3:0≤src∧src<n) (a4:1≤t∧t≤1073741824) (a6:0≤prev∧prev≤t) (a7:0≤c∧c≤4096) (a8:prev=0↔(i0:Int)=0) (h10:∀ x∈F.drop i0,ShapeOk x.2) (h11:∀ x∈F.drop i0,max 1 prev≤x.1∧x.1≤t) (hs:F.Pairwise fun x y=>x.1≤y.1) (hlb:F.length≤4096) (hiF:i0≤F.length) (hpre:lg <+: F) (hcm:0≤cm∧cm≤lg.length) (hpos:∀ x∈F,1≤x.1) (hb:D.length+300+130 * F.length≤1000000) (hi:i0≤lg.length) (hp:0<i0→(atJ lg ((i0:Int)-1)).1=prev) (heq:lg.length=F.length):TriX Tryz.prog 175 [.one (.ptr 0 0 0),.agg [.val (iv 3),.val (iv src),.val (iv to),.val (iv t),.val (iv (i0:Int)),.val (iv prev),.val (iv c),.val (.bool ok),.rsl 1 (F.drop i0).length]] ([PB (rb id n (1) cm vo x0 x1 x2 x3 x4 y0 y1 y2 y3 y4) (⟨⟨t,v,lg⟩,D,(D.length:Int)⟩:JD) W,.rs (F.drop i0).length (logV (F.drop i0))]) (.one (.gsl 2 1)) (fun W'=>[PB (rb id n (1) ((max cm (min c (F.length:Int)))) vo x0 x1 x2 x3 x4 y0 y1 y2 y3 y4) (⟨⟨t,v,F⟩,D,(D.length:Int)⟩:JD) W',.rs (F.drop i0).length (logV (F.drop i0)),.grow 226 9 1 [iv 4,iv id,iv src,iv t,iv (F.length:Int),iv 0,iv 0,.bool true,.slice none 0 0],.obj (poolO [atO (.grow 270 10 0 []) (0,0)])]):=by
 obtain ⟨A,hA,FG⟩:=aF
 have hdl:(F.drop i0).length=F.length-i0:=List.length_drop
 have hlF:=hpre.length_le
 have hfs:=zap _ (zan t (-1))
 have tpr:∀ W,TriP _ _ _ [_,.obj (oJ (⟨⟨t,v,lg⟩,D,(D.length:Int)⟩:JD) W),_] _:=fun W=>zcp (id) (n) (1) (cm) (vo) (x0) (x1) (x2) (x3) (x4) (y0) (y1) (y2) (y3) (y4) (⟨⟨t,v,lg⟩,D,(D.length:Int)⟩:JD) W src to t (i0:Int) prev c ok (F.drop i0) a1 a2 a3 a4 (by omega) a6 a7 a8 (by omega) h10 h11 (hs.sublist (List.drop_sublist _ _))
 have ttm:∀ W,TriP _ _ _ [_,.obj (oJ (⟨⟨t,v,lg⟩,D,(D.length:Int)⟩:JD) W)] _:=fun W=>zam (id) (n) (1) (cm) (vo) (x0) (x1) (x2) (x3) (x4) (y0) (y1) (y2) (y3) (y4) (⟨⟨t,v,lg⟩,D,(D.length:Int)⟩:JD) W
 have thv:∀ W,TriM _ _ _ [_,.obj (oJ (⟨⟨t,v,lg⟩,D,(D.length:Int)⟩:JD) W),_] _ [_,.obj (oJ (⟨⟨t,v,F⟩,D,(D.length:Int)⟩:JD) W),_,_,_]:=fun W=>zjr id n cm vo x0 x1 x2 x3 x4 y0 y1 y2 y3 y4 t (v) lg F D W prev src to ok i0 c hlb hpre hi hp a7 hcm hpos heq
 unfold PB;obtain ⟨nn,hnn⟩:=nm ((F.drop i0).length);obtain ⟨LV,hLV⟩:=nm (logV (F.drop i0));obtain ⟨z0,hz0⟩:=nm ((i0:Int));obtain ⟨C2,hC2⟩:=nm ((max cm (min c (F.length:Int))));obtain ⟨eI,heI⟩:=nm ((F.length:Int));obtain ⟨OX,hOX⟩:=nm (oJ (⟨⟨t,v,lg⟩,D,(D.length:Int)⟩:JD));obtain ⟨O3,hO3⟩:=nm (oJ (⟨⟨t,v,F⟩,D,(D.length:Int)⟩:JD));simp only [←hO3] at thv ⊢;simp only [←hOX] at tpr ttm thv ⊢
 try dsimp only at ttm
 try dsimp only at thv
 simp only [←hnn,←hLV] at tpr thv ⊢;simp only [←hC2] at thv ⊢;simp only [←heI] at thv ⊢;simp only [←hz0] at tpr thv ⊢;unfold rb at *
 have f0:A.lt t t=false:=fF hA (by omega)
 have f1:A.eq 1 1=true∧A.eq 3 1=false∧A.eq 3 2=false∧A.eq 3 3=true:=by rw [hA];exact ⟨rfl,rfl,rfl,rfl⟩
 change Hid _ at hA hnn hLV hz0 hC2 heI hOX hO3 a1 hpre hpos hs h10 h11 a8 hp
 refine zad (D:=ords175) (fnO zbf Tryz.func175) 41 (fun w0 own ps R hpl hR kE=>?_)
 refine zah 0 rfl rfl (by nofun) (fun Wj=>?_)
 (conv=>arg 3;cbv)
 refine kN ?_
 repeat' (conv=>arg 3;try cbv);first
  | ((with_reducible refine kC ?_);(first|refine nP [.same 0,.same 2,.rd (.rsl 1 nn)] (tpr _) ?_|refine nP [.same 0,.same 2] ((ttm _)) ?_|refine nM [.same 0,.same 2,.rd (.rsl 1 nn)] (thv _) ?_))
  | ((with_reducible refine kG ?_);refine kS1 hR 0 [2] [0,1,4,5] Wj (fun W'=>⟨rfl,W',rfl⟩))
  | simp only [*]
  | (split<;>(rename_i hsp;try simp only [FG] at hsp))
theorem zoa (id n cm vo x0 x1 x2 x3 x4 y0 y1 y2 y3 y4:Int) (t v:Int) (lg:List (Int × EnD)) (D:List UInt8) (W:Nat→Prop) (src to prev c:Int) (ok:Bool) (i0:Nat) (F:List (Int × EnD)) (a1:to=id) (a2:src≠id) (a3:0≤src∧src<n) (a4:1≤t∧t≤1073741824) (a6:0≤prev∧prev≤t) (a7:0≤c∧c≤4096) (a8:prev=0↔(i0:Int)=0) (h10:∀ x∈F.drop i0,ShapeOk x.2) (h11:∀ x∈F.drop i0,max 1 prev≤x.1∧x.1≤t) (hs:F.Pairwise fun x y=>x.1≤y.1) (hlb:F.length≤4096) (hiF:i0≤F.length) (hpre:lg <+: F) (hcm:0≤cm∧cm≤lg.length) (hpos:∀ x∈F,1≤x.1) (hb:D.length+300+130 * F.length≤1000000) (hi:lg.length<i0):TriX Tryz.prog 175 [.one (.ptr 0 0 0),.agg [.val (iv 3),.val (iv src),.val (iv to),.val (iv t),.val (iv (i0:Int)),.val (iv prev),.val (iv c),.val (.bool ok),.rsl 1 (F.drop i0).length]] ([PB (rb id n (1) cm vo x0 x1 x2 x3 x4 y0 y1 y2 y3 y4) (⟨⟨t,v,lg⟩,D,(D.length:Int)⟩:JD) W,.rs (F.drop i0).length (logV (F.drop i0))]) (.one (.gsl 2 1)) (fun W'=>[PB (rb id n (1) cm vo x0 x1 x2 x3 x4 y0 y1 y2 y3 y4) (⟨⟨t,v,lg⟩,D,(D.length:Int)⟩:JD) W',.rs (F.drop i0).length (logV (F.drop i0)),.grow 226 9 1 [iv 4,iv id,iv src,iv t,iv (lg.length:Int),iv 0,iv 0,.bool false,.slice none 0 0],.obj (poolO [atO (.grow 270 10 0 []) (0,0)])]):=by
 obtain ⟨A,hA,FG⟩:=aF
 have hdl:(F.drop i0).length=F.length-i0:=List.length_drop
 have hlF:=hpre.length_le
 have hfs:=zap _ (zan t (-1))
 have tpr:∀ W,TriP _ _ _ [_,.obj (oJ (⟨⟨t,v,lg⟩,D,(D.length:Int)⟩:JD) W),_] _:=fun W=>zcp (id) (n) (1) (cm) (vo) (x0) (x1) (x2) (x3) (x4) (y0) (y1) (y2) (y3) (y4) (⟨⟨t,v,lg⟩,D,(D.length:Int)⟩:JD) W src to t (i0:Int) prev c ok (F.drop i0) a1 a2 a3 a4 (by omega) a6 a7 a8 (by omega) h10 h11 (hs.sublist (List.drop_sublist _ _))
 have ttm:∀ W,TriP _ _ _ [_,.obj (oJ (⟨⟨t,v,lg⟩,D,(D.length:Int)⟩:JD) W)] _:=fun W=>zam (id) (n) (1) (cm) (vo) (x0) (x1) (x2) (x3) (x4) (y0) (y1) (y2) (y3) (y4) (⟨⟨t,v,lg⟩,D,(D.length:Int)⟩:JD) W
 have thv:∀ W,TriM _ _ _ [_,.obj (oJ (⟨⟨t,v,lg⟩,D,(D.length:Int)⟩:JD) W),_] _ [_,.obj (oJ (⟨⟨t,v,lg⟩,D,(D.length:Int)⟩:JD) W),_,_,_]:=fun W=>zjq id n cm vo x0 x1 x2 x3 x4 y0 y1 y2 y3 y4 (⟨⟨t,v,lg⟩,D,(D.length:Int)⟩:JD) W src to prev c ok i0 (F.drop i0).length (logV (F.drop i0)) hi (Nat.le_trans hlF hlb) (Nat.le_trans hiF hlb)
 unfold PB;obtain ⟨nn,hnn⟩:=nm ((F.drop i0).length);obtain ⟨LV,hLV⟩:=nm (logV (F.drop i0));obtain ⟨z0,hz0⟩:=nm ((i0:Int));obtain ⟨eI,heI⟩:=nm ((lg.length:Int));obtain ⟨OX,hOX⟩:=nm (oJ (⟨⟨t,v,lg⟩,D,(D.length:Int)⟩:JD));simp only [←hOX] at tpr ttm thv ⊢
 try dsimp only at ttm
 try dsimp only at thv
 simp only [←hnn,←hLV] at tpr thv ⊢;simp only [←heI] at thv ⊢;simp only [←hz0] at tpr thv ⊢;unfold rb at *
 have f0:A.lt t t=false:=fF hA (by omega)
 have f1:A.eq 1 1=true∧A.eq 3 1=false∧A.eq 3 2=false∧A.eq 3 3=true:=by rw [hA];exact ⟨rfl,rfl,rfl,rfl⟩
 change Hid _ at hA hnn hLV hz0 heI hOX a1 hpre hpos hs h10 h11 a8
 refine zad (D:=ords175) (fnO zbf Tryz.func175) 41 (fun w0 own ps R hpl hR kE=>?_)
 refine zah 0 rfl rfl (by nofun) (fun Wj=>?_)
 (conv=>arg 3;cbv)
 refine kN ?_
 repeat' (conv=>arg 3;try cbv);first
  | ((with_reducible refine kC ?_);(first|refine nP [.same 0,.same 2,.rd (.rsl 1 nn)] (tpr _) ?_|refine nP [.same 0,.same 2] ((ttm _)) ?_|refine nM [.same 0,.same 2,.rd (.rsl 1 nn)] (thv _) ?_))
  | ((with_reducible refine kG ?_);refine kS1 hR 0 [2] [0,1,4,5] Wj (fun W'=>⟨rfl,W',rfl⟩))
  | simp only [*]
  | (split<;>(rename_i hsp;try simp only [FG] at hsp))
end Go.Proofs.YtpigpajgjdcagaaGreat
