/- Parts. -/
import Derived.Test.YtpigpajgjdcagaaGreatUo
import Derived.Test.YtpigpajgjdcagaaGreatUw1
import Derived.Test.YtpigpajgjdcagaaGreatUt
import Derived.Test.YtpigpajgjdcagaaGreatUw2
set_option linter.unusedSimpArgs false
set_option linter.unusedVariables false
set_option maxRecDepth 100000
set_option maxHeartbeats 60000000
namespace Go.Proofs.YtpigpajgjdcagaaGreat
open Go.RowKit Eng
theorem zyr (D:List UInt8) (nd:Nat) (hd:D.length=nd) (du:Int) (B:List UInt8) (m:Nat) (hm:B.length=m) (hb:nd+m≤1000000):TriM Tryz.prog 328 [.one (.ptr 0 0 0),.one (.rsl 2 m)] ([.own 309 [.gsl 1 (nd),.val (.int .i64 (du))],.grow 5 1 nd (bV D),.rs m (bV B)]) (.tup []) [.own 309 [.gsl 3 (nd+m),.val (.int .i64 (du))],.dead,.rs m (bV B),.grow 5 1 (nd+m) (bV (D++B))]:=by
 obtain ⟨A,hA,FG⟩:=aF;obtain ⟨V,hV⟩:=nm (bV D);obtain ⟨U,hU⟩:=nm (bV B);obtain ⟨W,hW⟩:=nm (bV (D++B));obtain ⟨K,hK⟩:=nm (nd+m);simp only [←hV,←hU,←hW,←hK]
 have f0:A.rows U 0 m 1=some U:=by
  rw [hA];rw [hU];exact zia B hm
 have f1:A.fits nd m=true:=by
  rw [hA]
  simp [std]<;>omega
 have f2:A.addn nd m=K:=by
  rw [hA];rw [hK];rfl
 have f3:A.app V U=W:=by
  rw [hA];rw [hV,hU,hW];exact (zki D B).symm
 change Hid _ at hA hV hU hW hK
 refine zad (D:=ords328) (fnO ztx Tryz.func328) 11 (fun w0 own ps R hpl hR kE=>?_)
 refine kN ?_
 repeat' (conv=>arg 3;try cbv);first
  | ((with_reducible refine kG ?_);refine kO0 hR 4 ⟨rfl,?_⟩)
  | ((with_reducible refine kZ ?_);refine zbp hR 4 (by rfl) (by rfl) (by rfl) (by simp) ⟨rfl,?_⟩)
  | simp only [*]
  | (split<;>(rename_i hsp;try simp only [FG] at hsp))
 all_goals rfl
theorem zti (D:List UInt8) (nd:Nat) (hd:D.length=nd) (du:Int):TriM Tryz.prog 298 [.one (.ptr 0 0 0)] ([.own 309 [.gsl 1 (nd),.val (.int .i64 (du))],.grow 5 1 nd (bV D)]) (.tup []) [.own 309 [.gsl 1 (nd),.val (.int .i64 ((nd:Int)))],.grow 5 1 nd (bV D)]:=by
 obtain ⟨A,hA,FG⟩:=aF;obtain ⟨V,hV⟩:=nm (bV D);obtain ⟨ni,hni⟩:=nm ((nd:Int));simp only [←hV,←hni]
 have f0:A.len nd=ni:=by
  rw [hA];rw [hni];rfl
 change Hid _ at hA hV hni
 refine zad (D:=ords298) (fnO zt8 Tryz.func298) 9 (fun w0 own ps R hpl hR kE=>?_)
 refine kN ?_
 repeat' (conv=>arg 3;try cbv);first
  | ((with_reducible refine kG ?_);refine kO0 hR 2 ⟨rfl,?_⟩)
  | ((with_reducible refine kZ ?_);refine zbp hR 2 (by rfl) (by rfl) (by rfl) (Nat.le_refl 2) ⟨rfl,?_⟩)
  | simp only [*]
  | (split<;>(rename_i hsp;try simp only [FG] at hsp))
 all_goals (first|rfl|(rw [←f0];rfl))
theorem zrp (D:List UInt8) (nd:Nat) (hd:D.length=nd) (hb:nd≤1000000):TriM Tryz.prog 308 [.one (.ptr 0 0 0),.one (.val (.int .i64 (nd:Int)))] ([.own 309 [.gsl 1 (nd),.val (.int .i64 ((nd:Int)))],.grow 5 1 nd (bV D)]) (vI 0) [.own 309 [.gsl 2 (nd),.val (.int .i64 ((nd:Int)))],.dead,.grow 5 1 nd (bV D)]:=by
 obtain ⟨A,hA,FG⟩:=aF;obtain ⟨V,hV⟩:=nm (bV D);obtain ⟨ni,hni⟩:=nm ((nd:Int));simp only [←hV,←hni]
 have f0:A.len nd=ni:=by
  rw [hA];rw [hni];rfl
 have f1:A.lt ni 0=false:=by
  rw [hA]
  rw [hni];simp [std]<;>omega
 have f2:A.lt ni ni=false:=by
  rw [hA];simp [std]
 have f3:A.cutok 0 ni nd=true:=by
  rw [hA];rw [hni];simp [std]
 have f4:A.cutn 0 ni=nd:=by
  rw [hA];rw [hni];simp [std]
 have f5:A.tak V 0 nd 1=V:=by
  rw [hA];rw [hV];simp [std,←hd,←zxs]
 have f6:A.mn ni ni=ni:=by
  rw [hA];simp [std]
 change Hid _ at hA hV hni
 refine zad (D:=ords308) (fnO zt0 Tryz.func308) 32 (fun w0 own ps R hpl hR kE=>?_)
 refine kN ?_
 repeat' (conv=>arg 3;try cbv);first
  | ((with_reducible refine kG ?_);refine kO1 hR 3 ⟨?_,by rfl⟩)
  | simp only [*]
  | (split<;>(rename_i hsp;try simp only [FG] at hsp))
 all_goals rfl
theorem zrr (D:List UInt8) (nd:Nat) (hd:D.length=nd) (du:Int) (hb:nd≤1000000):TriM Tryz.prog 305 [.one (.ptr 0 0 0)] ([.own 309 [.gsl 1 (nd),.val (.int .i64 (du))],.grow 5 1 nd (bV D)]) (.one (.gsl 2 nd)) [.own 309 [.gsl 1 (nd),.val (.int .i64 (du))],.grow 5 1 nd (bV D),.grow 5 1 nd (bV D)]:=by
 obtain ⟨A,hA,FG⟩:=aF;obtain ⟨V,hV⟩:=nm (bV D);simp only [←hV]
 have f0:A.fits 0 nd=true:=by
  rw [hA]
  simp [std]<;>omega
 change Hid _ at hA hV
 refine zad (D:=ords305) (fnO zt1 Tryz.func305) 7 (fun w0 own ps R hpl hR kE=>?_)
 refine kN ?_
 repeat' (conv=>arg 3;try cbv);first
  | ((with_reducible refine kG ?_);refine kO1 hR 3 ⟨?_,by rfl⟩)
  | simp only [*]
  | (split<;>(rename_i hsp;try simp only [FG] at hsp))
 all_goals rfl
def ordsDC:Ords:=[(300,[],0,[0]),(0,[(0,false),(1,false),(2,false),(3,false),(4,false),(5,true),(6,true),(7,true),(8,true),(9,true),(10,true)],11,[]),(1,[(0,false),(1,false),(2,false),(3,false),(4,false),(5,false),(6,false),(7,false),(8,false),(9,false),(10,true),(11,true),(12,true),(13,true),(14,true),(15,true),(16,true)],17,[1])]
theorem zrq (D:List UInt8) (nd:Nat) (hd:D.length=nd) (keep:Int) (hb:nd≤1000000):TriM Tryz.prog 304 [.one (.ptr 0 0 0),.one (.val (.int .i64 keep))] ([.own 309 [.gsl 1 (nd),.val (.int .i64 ((nd:Int)))],.grow 5 1 nd (bV D)]) (.tup []) [.own 309 [.gsl 2 (nd),.val (.int .i64 ((nd:Int)))],.dead,.grow 5 1 nd (bV D)]:=by
 obtain ⟨A,hA,FG⟩:=aF;obtain ⟨V,hV⟩:=nm (bV D);obtain ⟨ni,hni⟩:=nm ((nd:Int));simp only [←hV,←hni]
 have f0:A.len nd=ni:=by
  rw [hA];rw [hni];rfl
 have f1:A.sub .i64 ni ni=0:=by
  rw [hA];simp [std];decide
 have f2:A.mx 0 (A.mn keep 0)=0:=by
  rw [hA]
  simp [std]<;>split<;>omega
 have f3:A.add .i64 ni 0=ni:=by
  rw [hA]
  rw [hni];exact (wrap64 (by omega) (by omega)).trans (by simp)
 have f4:A.cutok 0 ni nd=true:=by
  rw [hA];rw [hni];simp [std]
 have f5:A.cutn 0 ni=nd:=by
  rw [hA];rw [hni];simp [std]
 have f6:A.tak V 0 nd 1=V:=by
  rw [hA];rw [hV];simp [std,←hd,←zxs]
 change Hid _ at hA hV hni
 refine zad (D:=ordsDC) (fnO zt2 Tryz.func304) 38 (fun w0 own ps R hpl hR kE=>?_)
 refine kN ?_
 repeat' (conv=>arg 3;try cbv);first
  | ((with_reducible refine kG ?_);refine kO0 hR 3 ⟨rfl,?_⟩)
  | ((with_reducible refine kZ ?_);refine zbp hR 3 (by rfl) (by rfl) (by rfl) (by simp) ⟨rfl,?_⟩)
  | simp only [*]
  | (split<;>(rename_i hsp;try simp only [FG] at hsp))
 all_goals (first|rfl|(rw [←f0];rfl))
theorem zyq :TriM Tryz.prog 289 [] ([]) (.one (.ptr 0 0 0)) [.own 309 [.gsl 1 (0),.val (.int .i64 (0))],.grow 5 1 0 []]:=by
 obtain ⟨A,hA,FG⟩:=aF;replace hA:=kH hA
 refine zad (D:=ords289) (fnO zuh Tryz.func289) 3 (fun w0 own ps R hpl hR kE=>?_)
 refine kN ?_
 repeat' (conv=>arg 3;try cbv);first
  | ((with_reducible refine kG ?_);refine zb7 0 0 5 1 rfl (by rfl) (by rfl) ?_;refine kR1 hR [0,1] ⟨rfl,rfl⟩)
  | simp only [*]
  | (split<;>(rename_i hsp;try simp only [FG] at hsp))
theorem zrm (t v:Int) (lg:List (Int × EnD)) (D:List UInt8) (du:Int) :TriP Tryz.prog 290 [.one (.ptr 0 0 0)] ((⟨⟨t,v,lg⟩,D,du⟩:JD).B) (vI t):=by
 obtain ⟨A,hA,FG⟩:=aF;obtain ⟨nl,hnl⟩:=nm (lg.length);obtain ⟨LV,hLV⟩:=nm (logV lg);obtain ⟨nd,hnd⟩:=nm (D.length);obtain ⟨DV,hDV⟩:=nm (bV D)
 show TriP _ _ _ (jB t v lg.length (logV lg) D.length (bV D) du) _
 simp only [←hnl,←hLV,←hnd,←hDV];change Hid _ at hA hnl hLV hnd hDV
 refine zad (D:=ords290) (fnO zug Tryz.func290) 6 (fun w0 own ps R hpl hR kE=>?_)
 refine kN ?_
 repeat' (conv=>arg 3;try cbv);first
  | ((with_reducible refine kG ?_);refine kO1 hR 4 ⟨?_,by rfl⟩)
  | simp only [*]
  | (split<;>(rename_i hsp;try simp only [FG] at hsp))
 all_goals rfl
theorem zrz (x:JD) :PeekJ 290 [] x (vI x.j.term):=by
 obtain ⟨⟨t,v,lg⟩,D,du⟩:=x;exact peekJ (zrm t v lg D du ) rfl rfl
theorem zrl (t v:Int) (lg:List (Int × EnD)) (D:List UInt8) (du:Int) :TriP Tryz.prog 332 [.one (.ptr 0 0 0)] ((⟨⟨t,v,lg⟩,D,du⟩:JD).B) (vI v):=by
 obtain ⟨A,hA,FG⟩:=aF;obtain ⟨nl,hnl⟩:=nm (lg.length);obtain ⟨LV,hLV⟩:=nm (logV lg);obtain ⟨nd,hnd⟩:=nm (D.length);obtain ⟨DV,hDV⟩:=nm (bV D)
 show TriP _ _ _ (jB t v lg.length (logV lg) D.length (bV D) du) _
 simp only [←hnl,←hLV,←hnd,←hDV];change Hid _ at hA hnl hLV hnd hDV
 refine zad (D:=ords332) (fnO ztu Tryz.func332) 6 (fun w0 own ps R hpl hR kE=>?_)
 refine kN ?_
 repeat' (conv=>arg 3;try cbv);first
  | ((with_reducible refine kG ?_);refine kO1 hR 4 ⟨?_,by rfl⟩)
  | simp only [*]
  | (split<;>(rename_i hsp;try simp only [FG] at hsp))
 all_goals rfl
theorem zry (x:JD) :PeekJ 332 [] x (vI x.j.vote):=by
 obtain ⟨⟨t,v,lg⟩,D,du⟩:=x;exact peekJ (zrl t v lg D du ) rfl rfl
theorem zte (t v:Int) (lg:List (Int × EnD)) (D:List UInt8) (du:Int) :TriP Tryz.prog 292 [.one (.ptr 0 0 0)] ((⟨⟨t,v,lg⟩,D,du⟩:JD).B) (vI (lg.length:Int)):=by
 obtain ⟨A,hA,FG⟩:=aF;obtain ⟨nl,hnl⟩:=nm (lg.length);obtain ⟨LV,hLV⟩:=nm (logV lg);obtain ⟨nd,hnd⟩:=nm (D.length);obtain ⟨DV,hDV⟩:=nm (bV D)
 show TriP _ _ _ (jB t v lg.length (logV lg) D.length (bV D) du) _
 simp only [←hnl,←hLV,←hnd,←hDV];obtain ⟨ni,hni⟩:=nm ((nl:Int));simp only [←hni]
 have f0:A.len nl=ni:=by
  rw [hA];rw [hni];rfl
 change Hid _ at hA hnl hLV hnd hDV
 refine zad (D:=ords292) (fnO zue Tryz.func292) 7 (fun w0 own ps R hpl hR kE=>?_)
 refine kN ?_
 repeat' (conv=>arg 3;try cbv);first
  | ((with_reducible refine kG ?_);refine kO1 hR 4 ⟨?_,by rfl⟩)
  | simp only [*]
  | (split<;>(rename_i hsp;try simp only [FG] at hsp))
 all_goals (first|rfl|exact congrArg vI f0)
theorem zv4 (x:JD) :PeekJ 292 [] x (vI (x.j.log.length:Int)):=by
 obtain ⟨⟨t,v,lg⟩,D,du⟩:=x;exact peekJ (zte t v lg D du ) rfl rfl
theorem getRow (lg:List (Int × EnD)) {i:Int} (h0:0≤i) (h1:i<lg.length):std.getN (logV lg) (std.idx 0 i 10) 0 10=some (entV (atJ lg i)):=by
 have e:atJ lg i=lg.getD i.toNat (0,EnD.of []):=by unfold atJ;rw [if_pos ⟨h0,h1⟩]
 rw [e]
 exact rowN entV 10 (fun _=>rfl) lg (0,EnD.of []) i (by simp [std];omega)
theorem zps (t v:Int) (lg:List (Int × EnD)) (D:List UInt8) (du:Int) (i:Int):TriP Tryz.prog 327 [.one (.ptr 0 0 0),.one (.val (.int .i64 i))] ((⟨⟨t,v,lg⟩,D,du⟩:JD).B) (.tup [.agg (rowS (atJ lg i)),.one (.val (.bool (decide (0≤i∧i<lg.length))))]):=by
 obtain ⟨A,hA,FG⟩:=aF;obtain ⟨nl,hnl⟩:=nm (lg.length);obtain ⟨LV,hLV⟩:=nm (logV lg);obtain ⟨nd,hnd⟩:=nm (D.length);obtain ⟨DV,hDV⟩:=nm (bV D)
 show TriP _ _ _ (jB t v lg.length (logV lg) D.length (bV D) du) _
 simp only [←hnl,←hLV,←hnd,←hDV];obtain ⟨b,hb⟩:=nm (decide (0≤i∧i<(nl:Int)));simp only [←hb]
 have hr0:∀ q:Int × EnD,q=atJ lg i→True:=fun _ _=>trivial
 have z1:A.sel (A.lt i 0) true (A.le (A.len nl) i)=true→atJ lg i=(0,EnD.of [])∧b=false:=by
  rw [hA,hb];intro h
  have h9:i<0∨(nl:Int)≤i:=by
   by_cases h0:i<0
   ·exact .inl h0
   ·refine .inr ?_
    have e:std.lt i 0=false:=decide_eq_false h0
    rw [e] at h;exact of_decide_eq_true h
  exact ⟨by unfold atJ;rw [if_neg (by omega)],decide_eq_false (by omega)⟩
 have z3:(A.lt i 0=false∧A.le (A.len nl) i=false)→b=true:=by
  rw [hA,hb];rintro ⟨h1,h2⟩;have h9:¬ i<0:=of_decide_eq_false h1;have h10:¬ (nl:Int)≤i:=of_decide_eq_false h2;exact decide_eq_true (by omega)
 have g1:A.lt i 0=false→A.le (A.len nl) i=false→A.inb i nl=true:=by
  rw [hA,hnl];intro h1 h2;have h9:¬ i<0:=of_decide_eq_false h1;have h10:¬ (lg.length:Int)≤i:=of_decide_eq_false h2;simp [std];omega
 have g2:A.lt i 0=false→A.le (A.len nl) i=false→A.getN LV (A.idx 0 i 10) 0 10=some (entV (atJ lg i)):=by
  rw [hA,hnl,hLV];intro h1 h2;have h9:¬ i<0:=of_decide_eq_false h1;have h10:¬ (lg.length:Int)≤i:=of_decide_eq_false h2;exact getRow lg (by omega) (by omega)
 obtain ⟨r,hr⟩:=nm (atJ lg i);rw [←hr] at z1 g2 ⊢;clear hr hr0;obtain ⟨rt,⟨kd,tk,tn,cl,ot,ep,wl,wh,nn⟩⟩:=r;change Hid _ at hA hnl hLV hnd hDV
 refine zad (D:=ords327) (fnO zmh Tryz.func327) 23 (fun w0 own ps R hpl hR kE=>?_)
 refine kN ?_
 repeat' (conv=>arg 3;try cbv);first
  | ((with_reducible refine kG ?_);refine zdk hR ⟨zmh,zaa⟩ 4 (by rfl) (by rfl) (by rfl) (by rfl) (by rfl) (by rfl) (by rfl) (by simp [jB]) (by rfl) ⟨?_,by rfl⟩)
  | simp only [*]
  | (split<;>(rename_i hsp;try simp only [FG] at hsp))
 all_goals (first|(obtain ⟨z8,z9⟩:=z1 (by assumption);cases z8;rw [z9];rfl)|(rw [z3 (by assumption)];rfl))
theorem zzh (x:JD) (i:Int):PeekJ 327 [.one (.val (.int .i64 i))] x (.tup [.agg (rowS (atJ x.j.log i)),.one (.val (.bool (decide (0≤i∧i<x.j.log.length))))]):=by
 obtain ⟨⟨t,v,lg⟩,D,du⟩:=x;exact peekJ (zps t v lg D du i) rfl rfl
def ShapeOk (e:EnD):Prop:=TriP Tryz.prog 206 [enS e] [] (vB true)
theorem zl7 (t v:Int) (lg:List (Int × EnD)) (D:List UInt8) (du:Int) (i:Int):TriP Tryz.prog 293 [.one (.ptr 0 0 0),.one (.val (.int .i64 i))] ((⟨⟨t,v,lg⟩,D,du⟩:JD).B) (vI (atJ lg i).1):=by
 obtain ⟨A,hA,FG⟩:=aF;obtain ⟨nl,hnl⟩:=nm (lg.length);obtain ⟨LV,hLV⟩:=nm (logV lg);obtain ⟨nd,hnd⟩:=nm (D.length);obtain ⟨DV,hDV⟩:=nm (bV D)
 show TriP _ _ _ (jB t v lg.length (logV lg) D.length (bV D) du) _
 simp only [←hnl,←hLV,←hnd,←hDV];obtain ⟨b,hb⟩:=nm (decide (0≤i∧i<(lg.length:Int)))
 have ta:=zps t v lg D du i
 have hB:(⟨⟨t,v,lg⟩,D,du⟩:JD).B=jB t v nl LV nd DV du:=by rw [hnl,hLV,hnd,hDV];rfl
 simp only [←hb,hB] at ta;obtain ⟨r,hr⟩:=nm (atJ lg i);rw [←hr] at ta ⊢;clear hr;obtain ⟨rt,⟨kd,tk,tn,cl,ot,ep,wl,wh,nn⟩⟩:=r;change Hid _ at hA hnl hLV hnd hDV
 refine zad (D:=ords293) (fnO zud Tryz.func293) 13 (fun w0 own ps R hpl hR kE=>?_)
 refine kN ?_
 repeat' (conv=>arg 3;try cbv);first
  | ((with_reducible refine kC ?_);refine nP [.same 0,.same 1,.same 2,.same 3] ta ?_)
  | ((with_reducible refine kG ?_);refine kO1 hR 4 ⟨?_,by rfl⟩)
  | simp only [*]
  | (split<;>(rename_i hsp;try simp only [FG] at hsp))
 all_goals rfl
theorem zch (x:JD) (i:Int):PeekJ 293 [.one (.val (.int .i64 i))] x (vI (atJ x.j.log i).1):=by
 obtain ⟨⟨t,v,lg⟩,D,du⟩:=x;exact peekJ (zl7 t v lg D du i) rfl rfl
theorem zpr (t v:Int) (lg:List (Int × EnD)) (D:List UInt8) (du:Int) (a b:Int) (h1:0≤a∧a≤1073741824) (h2:-1≤b∧b<5) (h3:t≤a) (h4:t=a→v=-1∨v=b):TriM Tryz.prog 326 [.one (.ptr 0 0 0),.one (.val (.int .i64 a)),.one (.val (.int .i64 b))] (jB t v lg.length (logV lg) D.length (bV D) du) (vI 0) (jB a b lg.length (logV lg) D.length (bV D) du):=by
 obtain ⟨A,hA,FG⟩:=aF;unfold GenF at FG;obtain ⟨nl,hnl⟩:=nm (lg.length);obtain ⟨LV,hLV⟩:=nm (logV lg);obtain ⟨nd,hnd⟩:=nm (D.length);obtain ⟨DV,hDV⟩:=nm (bV D);unfold jB;simp only [←hnl,←hLV,←hnd,←hDV]
 have f0:A.lt a 0=false:=by
  rw [hA];simp [std];omega
 have f1:A.lt 1073741824 a=false:=by
  rw [hA];simp [std];omega
 have f2:A.lt b (-1)=false:=by
  rw [hA];simp [std];omega
 have f3:A.le 5 b=false:=by
  rw [hA];simp [std];omega
 have f4:A.lt a t=false:=by
  rw [hA];simp [std];omega
 change Hid _ at hA hnl hLV hnd hDV
 refine zad (D:=ords326) (fnO zty Tryz.func326) 55 (fun w0 own ps R hpl hR kE=>?_)
 refine kN ?_
 repeat' (conv=>arg 3;try cbv);first
  | ((with_reducible refine kG ?_);first|(refine kO1 hR 4 ⟨?_,by rfl⟩)|(exfalso;clear hR hpl FG;replace hA:=hA.out;subst hA;(try simp_all [std])<;>omega))
  | simp only [*]
  | (split<;>(rename_i hsp;try simp only [FG] at hsp))
 all_goals rfl
def ordsJA:Ords:=[(300,[],0,[0]),(7,[(0,false),(1,false),(2,false),(3,false),(4,false),(5,false),(6,true),(7,true),(8,true),(9,true),(10,true),(11,true)],12,[2])]
theorem zpt (t v:Int) (lg:List (Int × EnD)) (D:List UInt8) (du:Int) (a:Int) (e:EnD) (tsh:ShapeOk e) (h1:1≤a∧a≤1073741824) (h2:a≤t) (h3:(atJ lg (lg.length-1)).1≤a) (h4:lg.length<4096):TriM Tryz.prog 294 [.one (.ptr 0 0 0),.one (.val (.int .i64 a)),enS e] (jB t v lg.length (logV lg) D.length (bV D) du) (vI 0) [.own 285 [.ptr 1 0 0,.val (iv t),.val (iv v),.gsl 4 (lg.length+1)],.own 309 [.gsl 3 (D.length),.val (iv du)],.dead,.grow 5 1 (D.length) (bV D),.grow 270 10 (lg.length+1) (logV (lg++[(a,e)]))]:=by
 obtain ⟨A,hA,FG⟩:=aF;unfold GenF at FG;obtain ⟨nl,hnl⟩:=nm (lg.length);obtain ⟨LV,hLV⟩:=nm (logV lg);obtain ⟨nd,hnd⟩:=nm (D.length);obtain ⟨DV,hDV⟩:=nm (bV D);obtain ⟨K,hK⟩:=nm (lg.length+1);obtain ⟨W,hW⟩:=nm (logV (lg++[(a,e)]));obtain ⟨lt,hlt⟩:=nm ((atJ lg (lg.length-1)).1);obtain ⟨i1,hi1⟩:=nm ((lg.length:Int)-1)
 have tt:=zl7 t v lg D du i1
 have hB:(⟨⟨t,v,lg⟩,D,du⟩:JD).B=jB t v nl LV nd DV du:=by rw [hnl,hLV,hnd,hDV];rfl
 simp only [hB,hi1,←hlt] at tt;simp only [←hi1] at tt;unfold ShapeOk at tsh;simp only [←hK,←hW];unfold jB;simp only [←hnl,←hLV,←hnd,←hDV]
 have h0:A.app LV [.int .i64 a,.int .i64 e.kind,.int .i64 e.tick,.int .i64 e.tenant,.int .i64 e.cell,.int .i64 e.other,.int .i64 e.epoch,.int .i64 e.lo,.int .i64 e.hi,.int .i64 e.n]=W:=by
  rw [hA,hLV,hW];unfold logV;rw [List.flatMap_append];rfl
 obtain ⟨kd,tk,tn,cl,ot,ep,wl,wh,nn⟩:=e;dsimp only at h0
 have f0:A.lt a 1=false:=by
  rw [hA];simp [std];omega
 have f1:A.lt 1073741824 a=false:=by
  rw [hA];simp [std];omega
 have f2:A.lt t a=false:=by
  rw [hA];simp [std];omega
 have f3:A.lt a lt=false:=by
  rw [hA];rw [hlt];simp [std];omega
 have f4:A.sub .i64 (A.len nl) 1=i1:=by
  rw [hA]
  rw [hi1,hnl];exact wrap64 (by show (-9223372036854775808:Int)≤(lg.length:Int)-1;omega) (by show (lg.length:Int)-1≤9223372036854775807;omega)
 have f5:A.le 4096 (A.len nl)=false:=by
  rw [hA]
  rw [hnl];exact decide_eq_false (by show ¬ (4096:Int)≤(lg.length:Int);omega)
 have f6:A.fits nl 1=true:=by
  rw [hA];rw [hnl];simp [std];omega
 have f7:A.addn nl 1=K:=by
  rw [hA];rw [hK,hnl];rfl
 change Hid _ at hA hnl hLV hnd hDV hK hW hlt hi1
 refine zad (D:=ordsJA) (fnO zuc Tryz.func294) 51 (fun w0 own ps R hpl hR kE=>?_)
 refine kN ?_
 repeat' (conv=>arg 3;try cbv);first
  | ((with_reducible refine kC ?_);(first|refine nP [] tsh ?_|refine nP [.same 0,.same 1,.same 2,.same 3] tt ?_))
  | ((with_reducible refine kG ?_);first|(refine kR1 hR [0,1,2,3,6] ⟨rfl,rfl⟩)|(exfalso;clear hR hpl FG;replace hA:=hA.out;subst hA;(try simp_all [std])<;>omega))
  | simp only [FG,f0,f1,f2,f3,f4,f5,f6,f7,h0, *]
  | (split<;>(rename_i hsp;try simp only [FG] at hsp))
 all_goals rfl
def ordsJW:Ords:=[(300,[],0,[0]),(0,[(0,false),(1,false),(2,false),(3,false),(4,true),(5,true),(6,true)],7,[1,3])]
theorem zjv (t v:Int) (lg:List (Int × EnD)) (D:List UInt8) (du:Int) (Rc:List UInt8) (hr:Rc.length≤65536) (hb:D.length+(frameB sumN Rc).length≤1000000):TriM Tryz.prog 295 [.one (.ptr 0 0 0),.one (.rsl 4 Rc.length)] (jB t v lg.length (logV lg) D.length (bV D) du++[.rs Rc.length (bV Rc)]) (.tup []) [.own 285 [.ptr 1 0 0,.val (iv t),.val (iv v),.gsl 2 (lg.length)],.own 309 [.gsl 5 (D.length+(frameB sumN Rc).length),.val (iv du)],.grow 270 10 (lg.length) (logV lg),.dead,.rs Rc.length (bV Rc),.grow 5 1 (D.length+(frameB sumN Rc).length) (bV (D++frameB sumN Rc))]:=by
 obtain ⟨A,hA,FG⟩:=aF;obtain ⟨K,hK⟩:=nm (D.length+(frameB sumN Rc).length);obtain ⟨W,hW⟩:=nm (bV (D++frameB sumN Rc));obtain ⟨fl,hfl⟩:=nm ((frameB sumN Rc).length);obtain ⟨FB,hFB⟩:=nm (bV (frameB sumN Rc));obtain ⟨m,hm⟩:=nm (Rc.length);obtain ⟨RV,hRV⟩:=nm (bV Rc);obtain ⟨nl,hnl⟩:=nm (lg.length);obtain ⟨LV,hLV⟩:=nm (logV lg);obtain ⟨nd,hnd⟩:=nm (D.length);obtain ⟨DV,hDV⟩:=nm (bV D)
 have td:=zyr D D.length rfl du (frameB sumN Rc) (frameB sumN Rc).length rfl hb
 have tf:=zyl Rc Rc.length rfl hr
 simp only [←hK,←hW] at td ⊢;unfold jB;dsimp only [List.cons_append,List.nil_append];simp only [←hfl,←hFB,←hm,←hRV,←hnl,←hLV,←hnd,←hDV] at td tf ⊢;change Hid _ at hA hK hW hfl hFB hm hRV hnl hLV hnd hDV
 refine zad (D:=ordsJW) (fnO zub Tryz.func295) 9 (fun w0 own ps R hpl hR kE=>?_)
 refine kN ?_
 repeat' (conv=>arg 3;try cbv);first
  | ((with_reducible refine kC ?_);(first|refine nM [.rd (.rsl 4 m)] tf ?_|refine nM [.same 1,.same 3,.rd (.gsl 5 fl)] td ?_))
  | (((with_reducible refine kZ ?_);refine zfi hR [0,1,2,3,4,6] ([.own 285 [.ptr 1 0 0,.val (iv t),.val (iv v),.gsl 2 (nl)],.own 309 [.gsl 5 (K),.val (iv du)],.grow 270 10 (nl) (LV),.dead,.rs m RV,.grow 5 1 (K) (W)]) (by rfl) (by rfl) (by rfl) (by rfl) hpl ?_ (by rfl) (by simp) ⟨rfl,rfl⟩;exact ⟨(by first|exact .inl rfl|exact .inr rfl),(by first|exact .inl rfl|exact .inr rfl),(by first|exact .inl rfl|exact .inr rfl),(by first|exact .inl rfl|exact .inr rfl),(by first|exact .inl rfl|exact .inr rfl),(by first|exact .inl rfl|exact .inr rfl),trivial⟩))
  | simp only [*]
  | (split<;>(rename_i hsp;try simp only [FG] at hsp))
theorem recT (a b:Int):[1,a,b].flatMap encI=(Rec.term a b).bytes:=by simp [Rec.bytes]
theorem recE (a:Int) (e:EnD):[2,a].flatMap encI++entB e=(Rec.ent a e).bytes:=by simp [Rec.bytes]
theorem i6s {n:Int} (h:-1000≤n∧n≤1073741824):I6 n:=⟨by omega,by omega⟩
theorem zma (t v:Int) (lg:List (Int × EnD)) (D:List UInt8) (du:Int) (a b:Int) (h1:0≤a∧a≤1073741824) (h2:-1≤b∧b<5) (h3:t≤a) (h4:t=a→v=-1∨v=b) (hr:(Rec.term a b).bytes.length≤65536) (hb:D.length+(frameB sumN (Rec.term a b).bytes).length≤1000000) (W:Nat→Prop):TriX Tryz.prog 291 [.one (.ptr 0 0 0),.one (.val (.int .i64 a)),.one (.val (.int .i64 b))] ([PJ (⟨⟨t,v,lg⟩,D,du⟩:JD) W]) (vI 0) (fun W'=>[PJ (⟨⟨a,b,lg⟩,D++(frameB sumN (Rec.term a b).bytes),du⟩:JD) W']):=by
 obtain ⟨A,hA,FG⟩:=aF;obtain ⟨K,hK⟩:=nm ((D++(frameB sumN (Rec.term a b).bytes)).length);obtain ⟨W2,hW2⟩:=nm (bV (D++(frameB sumN (Rec.term a b).bytes)));obtain ⟨RV,hRV⟩:=nm (bV (Rec.term a b).bytes);obtain ⟨m,hm⟩:=nm ((Rec.term a b).bytes.length);obtain ⟨nl,hnl⟩:=nm (lg.length);obtain ⟨LV,hLV⟩:=nm (logV lg);obtain ⟨nd,hnd⟩:=nm (D.length);obtain ⟨DV,hDV⟩:=nm (bV D)
 show TriX _ _ _ [pk (jB t v lg.length (logV lg) D.length (bV D) du) W] _ (fun W'=>[pk (jB a b lg.length (logV lg) (D++(frameB sumN (Rec.term a b).bytes)).length (bV (D++(frameB sumN (Rec.term a b).bytes))) du) W'])
 have tj:=zpr t v lg D du a b h1 h2 h3 h4
 have ti:=zpu [1,a,b] (by simp only [List.mem_cons,List.not_mem_nil,or_false,forall_eq_or_imp,forall_eq];exact ⟨i6s (by omega),i6s (by omega),i6s (by omega)⟩) 3 rfl (by omega)
 have tw:=zjv a b lg D du (Rec.term a b).bytes hr hb
 rw [recT] at ti;simp only [←List.length_append] at tw;simp only [←hK,←hW2,←hRV,←hm] at tw ti ⊢;unfold jB at tj tw ⊢;dsimp only [List.cons_append,List.nil_append,List.map] at tj tw ti ⊢;simp only [←hnl,←hLV,←hnd,←hDV] at tj tw ⊢
 have f0:A.eq 0 0=true:=by rw [hA];rfl
 change Hid _ at hA hK hW2 hRV hm hnl hLV hnd hDV
 refine zad (D:=ords291) (fnO zuf Tryz.func291) 18 (fun w0 own ps R hpl hR kE=>?_)
 refine zah 0 rfl rfl (by nofun) (fun _=>?_)
 (conv=>arg 3;cbv)
 refine kN ?_
 repeat' (conv=>arg 3;try cbv);first
  | ((with_reducible refine kC ?_);(first|refine nM [.same 0,.same 1,.same 2,.same 3] tj ?_|(refine ziw [.rd (.slc 4 0 3 3)] (ti) (by rfl) ⟨⟨rfl,Nat.le_refl _,(by simp [Value.oneCell',iv]),[],[],rfl,rfl⟩,rfl,trivial⟩ rfl rfl rfl rfl rfl rfl rfl ⟨.inr rfl,⟨rfl,trivial⟩⟩ rfl ?_;refine kN ?_)|refine nM [.same 0,.same 1,.same 2,.same 3,.rd (.gsl 5 m)] tw ?_))
  | ((with_reducible refine kG ?_);refine kS1 hR 0 [1,2,6] [0] () (fun W'=>⟨rfl,W',rfl⟩))
  | simp only [*]
  | (split<;>(rename_i hsp;try simp only [FG] at hsp))
def ordsJP:Ords:=[(300,[],0,[0]),(4,[(0,false),(1,false),(4,false),(2,true),(3,true),(5,true),(6,true),(7,true)],8,[0,1,3,5])]
theorem ze8 (t v:Int) (lg:List (Int × EnD)) (D:List UInt8) (du:Int) (a:Int) (e:EnD) (tsh:ShapeOk e) (h6:∀ x∈e.list,I6 x) (h1:1≤a∧a≤1073741824) (h2:a≤t) (h3:(atJ lg (lg.length-1)).1≤a) (h4:lg.length<4096) (hr:(Rec.ent a e).bytes.length≤65536) (hb:D.length+(frameB sumN (Rec.ent a e).bytes).length≤1000000) (W:Nat→Prop):TriX Tryz.prog 249 [.one (.ptr 0 0 0),.one (.val (.int .i64 a)),enS e] ([PJ (⟨⟨t,v,lg⟩,D,du⟩:JD) W]) (vI 0) (fun W'=>[PJ (⟨⟨t,v,lg++[(a,e)]⟩,D++(frameB sumN (Rec.ent a e).bytes),du⟩:JD) W']):=by
 obtain ⟨A,hA,FG⟩:=aF;obtain ⟨K,hK⟩:=nm ((D++(frameB sumN (Rec.ent a e).bytes)).length);obtain ⟨W2,hW2⟩:=nm (bV (D++(frameB sumN (Rec.ent a e).bytes)));obtain ⟨K1,hK1⟩:=nm ((lg++[(a,e)]).length);obtain ⟨W1,hW1⟩:=nm (logV (lg++[(a,e)]));obtain ⟨RV,hRV⟩:=nm (bV (Rec.ent a e).bytes);obtain ⟨m,hm⟩:=nm ((Rec.ent a e).bytes.length);obtain ⟨X1,hX1⟩:=nm (bV ([2,a].flatMap encI));obtain ⟨x1,hx1⟩:=nm (([2,a].flatMap encI).length);obtain ⟨X2,hX2⟩:=nm (bV (entB e));obtain ⟨x2,hx2⟩:=nm ((entB e).length);obtain ⟨nl,hnl⟩:=nm (lg.length);obtain ⟨LV,hLV⟩:=nm (logV lg);obtain ⟨nd,hnd⟩:=nm (D.length);obtain ⟨DV,hDV⟩:=nm (bV D)
 show TriX _ _ _ [pk (jB t v lg.length (logV lg) D.length (bV D) du) W] _ (fun W'=>[pk (jB t v (lg++[(a,e)]).length (logV (lg++[(a,e)])) (D++(frameB sumN (Rec.ent a e).bytes)).length (bV (D++(frameB sumN (Rec.ent a e).bytes))) du) W'])
 have tj:=zpt t v lg D du a e tsh h1 h2 h3 h4
 have ti:=zpu [2,a] (by simp only [List.mem_cons,List.not_mem_nil,or_false,forall_eq_or_imp,forall_eq];exact ⟨i6s (by omega),i6s (by omega)⟩) 2 rfl (by omega)
 have te:=zro e h6
 have tw:=zjv t v (lg++[(a,e)]) D du (Rec.ent a e).bytes hr hb
 have hle:(lg++[(a,e)]).length=lg.length+1:=by simp
 have g0:A.app X1 X2=RV:=by rw [hA,hX1,hX2,hRV,←recE];exact (zki _ _).symm
 have g1:A.addn x1 x2=m:=by rw [hA,hx1,hx2,hm,←recE,List.length_append];rfl
 have g2:A.fits x1 x2=true:=by
  have:x1+x2=m:=by rw [hx1,hx2,hm,←recE,List.length_append]
  rw [hA];simp [std];omega
 have g3:A.rows X2 0 x2 1=some X2:=by rw [hA,hX2,hx2];exact zia (entB e) rfl
 rw [←hle] at tj;simp only [←List.length_append] at tw;simp only [←hK,←hW2,←hK1,←hW1,←hRV,←hm] at tw tj ⊢;simp only [←hX1,←hx1,←hX2,←hx2] at ti te;unfold jB at tj tw ⊢;dsimp only [List.cons_append,List.nil_append,List.map] at tj tw ti ⊢;simp only [←hnl,←hLV,←hnd,←hDV] at tj tw ⊢;obtain ⟨kd,tk,tn,cl,ot,ep,wl,wh,nn⟩:=e
 have f0:A.eq 0 0=true:=by rw [hA];rfl
 change Hid _ at hA hK hW2 hK1 hW1 hRV hm hX1 hx1 hX2 hx2 hnl hLV hnd hDV
 refine zad (D:=ordsJP) (fnO zuq Tryz.func249) 20 (fun w0 own ps R hpl hR kE=>?_)
 refine zah 0 rfl rfl (by nofun) (fun _=>?_)
 (conv=>arg 3;cbv)
 refine kN ?_
 repeat' (conv=>arg 3;try cbv);first
  | ((with_reducible refine kC ?_);(first|refine nM [.same 0,.same 1,.same 2,.same 3] tj ?_|(refine ziw [.rd (.slc 6 0 2 2)] (ti) (by rfl) ⟨⟨rfl,Nat.le_refl _,(by simp [Value.oneCell',iv]),[],[],rfl,rfl⟩,rfl,trivial⟩ rfl rfl rfl rfl rfl rfl rfl ⟨.inr rfl,⟨rfl,trivial⟩⟩ rfl ?_;refine kN ?_)|refine nM [] te ?_|refine nM [.same 0,.same 1,.same 5,.same 3,.rd (.gsl 9 m)] tw ?_))
  | ((with_reducible refine kG ?_);refine kS1 hR 0 [1,5,10] [0] () (fun W'=>⟨rfl,W',rfl⟩))
  | simp only [FG,f0,g0,g1,g2,g3, *]
  | (split<;>(rename_i hsp;try simp only [FG] at hsp))
theorem zfk (t v:Int) (lg:List (Int × EnD)) (D:List UInt8) (du:Int)  (W:Nat→Prop):TriX Tryz.prog 250 [.one (.ptr 0 0 0)] ([PJ (⟨⟨t,v,lg⟩,D,du⟩:JD) W]) (.tup []) (fun W'=>[PJ (⟨⟨t,v,lg⟩,D,(D.length:Int)⟩:JD) W']):=by
 obtain ⟨A,hA,FG⟩:=aF;obtain ⟨nl,hnl⟩:=nm (lg.length);obtain ⟨LV,hLV⟩:=nm (logV lg);obtain ⟨nd,hnd⟩:=nm (D.length);obtain ⟨DV,hDV⟩:=nm (bV D)
 show TriX _ _ _ [pk (jB t v lg.length (logV lg) D.length (bV D) du) W] _ (fun W'=>[pk (jB t v lg.length (logV lg) D.length (bV D) (D.length:Int)) W'])
 have ts:=zti D D.length rfl du
 obtain ⟨ni,hni⟩:=nm ((nd:Int));unfold jB;simp only [←hnl,←hLV,←hnd,←hDV] at ts ⊢;simp only [←hni] at ts ⊢;change Hid _ at hA hnl hLV hnd hDV
 refine zad (D:=ords250) (fnO zup Tryz.func250) 6 (fun w0 own ps R hpl hR kE=>?_)
 refine zah 0 rfl rfl (by nofun) (fun _=>?_)
 (conv=>arg 3;cbv)
 refine kN ?_
 repeat' (conv=>arg 3;try cbv);first
  | ((with_reducible refine kC ?_);refine nM [.same 1,.same 3] ts ?_)
  | (((with_reducible refine kZ ?_);refine kK 0 [1,2,3] (m:=fun _:Unit=>jB t v nl LV nd DV ni) () (fun W'=>?_);refine zfi hR [0] ([pk (jB t v nl LV nd DV ni) W']) (by rfl) (by rfl) (by rfl) (by rfl) hpl ⟨.inr rfl,trivial⟩ (by rfl) (by simp) ⟨rfl,W',rfl⟩))
  | simp only [*]
  | (split<;>(rename_i hsp;try simp only [FG] at hsp))
end Go.Proofs.YtpigpajgjdcagaaGreat
