/- Parts. -/
import Derived.Test.YtpigpajgjdcagaaGreatUr6
import Derived.Test.YtpigpajgjdcagaaGreatUr7
set_option linter.unusedSimpArgs false
set_option linter.unusedVariables false
set_option maxRecDepth 100000
set_option maxHeartbeats 60000000
namespace Go.Proofs.YtpigpajgjdcagaaGreat
open Go.RowKit Eng
theorem wrapS {a b:Int} (h0:0≤a) (h1:0≤b) (h2:a+b≤1000000):std.add .i64 a b=a+b:=wrap64 (by omega) (by omega)
theorem dropLog (l:List (Int × EnD)) (k:Nat) (h:k≤l.length):std.tak (logV l) (std.idx 0 (Int.ofNat k) 10) (l.length-k) 10=logV (l.drop k):=by
 have e:∀ (l:List (Int × EnD)) (k:Nat),(logV l).drop (k * 10)=logV (l.drop k):=by
  intro l
  induction l with
  | nil=>intro k;simp [logV]
  | cons x l ih =>
    intro k
    cases k with
    | zero=>simp
    | succ k =>
      rw [show (k+1) * 10=10+k * 10 by omega,←List.drop_drop]
      have:(logV (x::l)).drop 10=logV l:=by
       unfold logV;rw [List.flatMap_cons];exact List.drop_left' rfl
      rw [this,ih];rfl
 have hl:∀ l:List (Int × EnD),(logV l).length=l.length * 10:=by
  intro l
  induction l with
  | nil=>rfl
  | cons x l ih=>simp only [logV,List.flatMap_cons,List.length_append,List.length_cons] at *;rw [ih];show 10+_=_;omega
 show ((logV l).drop (0+(Int.ofNat k).toNat * 10)).take ((l.length-k) * 10)=_
 rw [Nat.zero_add,show (Int.ofNat k).toNat=k from rfl,e,List.take_of_length_le]
 rw [hl,List.length_drop];omega
theorem zjs (id n cm vo x0 x1 x2 x3 x4 y0 y1 y2 y3 y4:Int) (t v:Int) (lg F:List (Int × EnD)) (D:List UInt8) (W:Nat→Prop) (prev:Int) (src to:Int) (ok:Bool) (i0:Nat) (c:Int) (hlb:F.length≤4096) (hpre:lg <+: F) (hi:i0≤lg.length) (hp:0<i0→(atJ lg ((i0:Int)-1)).1=prev) (hc:0≤c∧c≤4096) (hcm:0≤cm∧cm≤lg.length) (hpos:∀ x∈F,1≤x.1) (hne:lg.length<F.length) (hen:EntsOk t (F.drop lg.length)) (hs:F.Pairwise fun x y=>x.1≤y.1) (hb:D.length+130 * (F.drop lg.length).length≤1000000):TriX Tryz.prog 256 [.one (.ptr 0 0 0),.agg [.val (iv 3),.val (iv src),.val (iv to),.val (iv t),.val (iv (i0:Int)),.val (iv prev),.val (iv c),.val (.bool ok),.rsl 2 (F.drop i0).length]] ([rb id n (1) cm vo x0 x1 x2 x3 x4 y0 y1 y2 y3 y4,PJ (⟨⟨t,v,lg⟩,D,(D.length:Int)⟩:JD) W,.rs (F.drop i0).length (logV (F.drop i0))]) (.one (.gsl 3 1)) (fun W'=>[rb id n (1) ((max cm (min c (F.length:Int)))) vo x0 x1 x2 x3 x4 y0 y1 y2 y3 y4,PJ (⟨⟨t,v,F⟩,D++entsD (F.drop lg.length),((D++entsD (F.drop lg.length)).length:Int)⟩:JD) W',.rs (F.drop i0).length (logV (F.drop i0)),.grow 226 9 1 [iv 4,iv id,iv src,iv t,iv (F.length:Int),iv 0,iv 0,.bool true,.slice none 0 0],.obj (poolO [atO (.grow 270 10 0 []) (0,0)])]):=by
 obtain ⟨A,hA,FG⟩:=aF
 have hple:=hpre.length_le
 have hdl:(F.drop i0).length=F.length-i0:=List.length_drop
 have tn:TriP _ _ _ [_,.obj (oJ (⟨⟨t,v,lg⟩,D,(D.length:Int)⟩:JD) W)] _:=zbn (id) (n) (1) (cm) (vo) (x0) (x1) (x2) (x3) (x4) (y0) (y1) (y2) (y3) (y4) (⟨⟨t,v,lg⟩,D,(D.length:Int)⟩:JD) W
 have tt:TriP _ _ _ [_,.obj (oJ (⟨⟨t,v,lg⟩,D,(D.length:Int)⟩:JD) W)] _:=zam (id) (n) (1) (cm) (vo) (x0) (x1) (x2) (x3) (x4) (y0) (y1) (y2) (y3) (y4) (⟨⟨t,v,lg⟩,D,(D.length:Int)⟩:JD) W
 have tp:TriP _ _ _ [.obj (oJ (⟨⟨t,v,lg⟩,D,(D.length:Int)⟩:JD) W)] _:=zch (⟨⟨t,v,lg⟩,D,(D.length:Int)⟩:JD) ((i0:Int)-1) W
 have hcat:lg++F.drop lg.length=F:=List.prefix_iff_eq_append.1 hpre
 have tr0:=zsv (id) (n) (1) (cm) (vo) (x0) (x1) (x2) (x3) (x4) (y0) (y1) (y2) (y3) (y4) t v lg D (D.length:Int) W (F.drop lg.length) hen (by rw [hcat];exact hs) (by rw [List.length_drop];omega) hb
 rw [hcat] at tr0
 have tr:TriX _ _ _ [_,.obj (oJ (⟨⟨t,v,lg⟩,D,(D.length:Int)⟩:JD) W),_] _ (fun W'=>[_,.obj (oJ (⟨⟨t,v,F⟩,D++entsD (F.drop lg.length),((D++entsD (F.drop lg.length)).length:Int)⟩:JD) W'),_]):=tr0
 clear tr0 hcat
 have ts:∀ W,TriM _ _ _ [_,.obj (oJ (⟨⟨t,v,F⟩,D++entsD (F.drop lg.length),((D++entsD (F.drop lg.length)).length:Int)⟩:JD) W)] _ [_,.obj (oJ (⟨⟨t,v,F⟩,D++entsD (F.drop lg.length),((D++entsD (F.drop lg.length)).length:Int)⟩:JD) W),_,_]:=fun W=>zkk (id) (n) (1) ((max cm (min c (F.length:Int)))) (vo) (x0) (x1) (x2) (x3) (x4) (y0) (y1) (y2) (y3) (y4) (⟨⟨t,v,F⟩,D++entsD (F.drop lg.length),((D++entsD (F.drop lg.length)).length:Int)⟩:JD) W src (F.length:Int) true
 change TriX _ _ _ [rb id n (1) cm vo x0 x1 x2 x3 x4 y0 y1 y2 y3 y4,.obj (oJ (⟨⟨t,v,lg⟩,D,(D.length:Int)⟩:JD) W),_] _ (fun W'=>[rb id n (1) ((max cm (min c (F.length:Int)))) vo x0 x1 x2 x3 x4 y0 y1 y2 y3 y4,.obj (oJ (⟨⟨t,v,F⟩,D++entsD (F.drop lg.length),((D++entsD (F.drop lg.length)).length:Int)⟩:JD) W'),_,_,_])
 obtain ⟨nn,hnn⟩:=nm ((F.drop i0).length);obtain ⟨LV,hLV⟩:=nm (logV (F.drop i0));obtain ⟨kk,hkk⟩:=nm (lg.length-i0);obtain ⟨z0,hz0⟩:=nm ((i0:Int));obtain ⟨zm,hzm⟩:=nm ((i0:Int)-1);obtain ⟨ln,hln⟩:=nm ((lg.length:Int));obtain ⟨eI,heI⟩:=nm ((F.length:Int));obtain ⟨C2,hC2⟩:=nm ((max cm (min c (F.length:Int))))
 obtain ⟨II,hII⟩:=nm (fun j:Nat=>Int.ofNat j)
 obtain ⟨ZI,hZI⟩:=nm (fun j:Nat=>((i0+j:Nat):Int))
 obtain ⟨TT,hTT⟩:=nm (fun j:Nat=>(atJ lg ((i0+j:Nat):Int)).1)
 obtain ⟨EE,hEE⟩:=nm (fun j:Nat=>((F.drop i0).getD j (0,EnD.of [])).1)
 obtain ⟨pt,hpt⟩:=nm ((atJ lg ((i0:Int)-1)).1);obtain ⟨O,hO⟩:=nm (oJ (⟨⟨t,v,lg⟩,D,(D.length:Int)⟩:JD) W);obtain ⟨n2,hn2⟩:=nm ((F.drop lg.length).length);obtain ⟨L2,hL2⟩:=nm (logV (F.drop lg.length));obtain ⟨O2,hO2⟩:=nm (oJ (⟨⟨t,v,F⟩,D++entsD (F.drop lg.length),((D++entsD (F.drop lg.length)).length:Int)⟩:JD))
 try dsimp only at tn
 try dsimp only at tt
 try dsimp only at tp
 have tq:∀ j:Nat,TriP Tryz.prog 293 [.one (.ptr 0 0 0),.one (.val (.int .i64 (ZI j)))] [.obj O] (.one (.val (.int .i64 (TT j)))):=by
  intro j;rw [hZI,hTT,hO];exact zch (⟨⟨t,v,lg⟩,D,(D.length:Int)⟩:JD) ((i0+j:Nat):Int) W
 simp only [←hO2] at tr ts ⊢;simp only [←hO] at tn tt tp tr ⊢;simp only [←hn2,←hL2] at tr ⊢;simp only [←hnn,←hLV,←hC2] at tn tt tr ts ⊢;simp only [←hpt] at tp hp;simp only [←hzm] at tp;simp only [←hz0] at tp ⊢;simp only [←hln] at tn tr;simp only [←heI] at ts ⊢
 have g0:A.lt ln z0=false:=by rw [hA,hln,hz0];exact decide_eq_false (by omega)
 have g1:A.sub .i64 z0 1=zm:=by rw [hA,hz0,hzm];exact wrap64 (by omega) (by omega)
 have g2:A.lt 0 z0=true→A.eq pt prev=true:=by rw [hA,hz0];intro h;have h9:(0:Int)<(i0:Int):=of_decide_eq_true h;simp only [std,beq_iff_eq];exact hp (by omega)
 have q1:∀ j:Nat,A.lt (II j) (A.len nn)=true→A.inb (II j) nn=true:=by rw [hA,hII];intro j h;have h9:(Int.ofNat j:Int)<(nn:Int):=of_decide_eq_true h;simp [std];exact Int.ofNat_lt.1 h9
 have q2:∀ j:Nat,A.lt (II j) (A.len nn)=true→A.add .i64 z0 (II j)=ZI j:=by rw [hA,hII,hz0,hZI];intro j h;have h9:(Int.ofNat j:Int)<(nn:Int):=of_decide_eq_true h;have h8:j<nn:=Int.ofNat_lt.1 h9;exact (wrapS (by omega) (by show (0:Int)≤(j:Int);omega) (by show (i0:Int)+(j:Int)≤1000000;omega)).trans (by show (i0:Int)+(j:Int)=((i0+j:Nat):Int);omega)
 have q3:∀ j:Nat,A.lt (II j) (A.len nn)=true→A.get LV (A.idx 0 (II j) 10) 0=some (.int .i64 (EE j)):=by
  rw [hA,hII,hLV,hEE];intro j h;have h9:(Int.ofNat j:Int)<(nn:Int):=of_decide_eq_true h;have h8:j<nn:=Int.ofNat_lt.1 h9
  have:=rowF entV 10 (fun _=>rfl) (F.drop i0) (0,EnD.of []) 0 (by omega) (Int.ofNat j) (by rw [←hnn];simp [std];exact h8)
  rw [show logV (F.drop i0)=(F.drop i0).flatMap entV from rfl,this]
  rfl
 have key:∀ j:Nat,j<nn→j<kk→TT j=EE j:=by
  intro j h1 h2;rw [hTT,hEE];obtain ⟨r,hr⟩:=hpre
  have h3:i0+j<lg.length:=by omega
  have e1:(F.drop i0).getD j (0,EnD.of [])=lg[i0+j]:=by
   have h4:=List.getElem?_append_left (l₂:=r) h3
   rw [hr] at h4;simp only [List.getD_eq_getElem?_getD,List.getElem?_drop];rw [h4,List.getElem?_eq_getElem h3];rfl
  have e2:atJ lg ((i0+j:Nat):Int)=lg[i0+j]:=by
   unfold atJ
   rw [if_pos ⟨by omega,by omega⟩,Int.toNat_natCast]
   simp [List.getD_eq_getElem?_getD,List.getElem?_eq_getElem h3]
  dsimp only;rw [e1,e2]
 have keyF:∀ j:Nat,j<nn→j=kk→TT j≠EE j:=by
  intro j h1 h2;rw [hTT,hEE]
  have e2:(atJ lg ((i0+j:Nat):Int)).1=0:=by
   unfold atJ
   rw [if_neg (by omega)]
  have h3:j<(F.drop i0).length:=by omega
  have e1:(F.drop i0).getD j (0,EnD.of [])=(F.drop i0)[j]:=by simp [List.getD_eq_getElem?_getD,List.getElem?_eq_getElem h3]
  have h4:=hpos _ (List.mem_of_mem_drop (List.getElem_mem h3))
  dsimp only;rw [e1,e2];omega
 have l1:∀ j:Nat,j≤kk→A.lt (II j) (A.len nn)=true→A.eq (TT j) (EE j)=true→j+1≤kk:=by
  rw [hA,hII];intro j hj h h'
  have h9:(Int.ofNat j:Int)<(nn:Int):=of_decide_eq_true h
  have h8:j<nn:=Int.ofNat_lt.1 h9
  have h7:TT j=EE j:=by simpa [std] using h'
  rcases Nat.lt_or_ge j kk with h6|h6
  ·exact h6
  ·exact absurd h7 (keyF j h8 (by omega))
 have l2:∀ j:Nat,A.lt (II j) (A.len nn)=true→A.add .i64 (II j) 1=II (j+1):=by rw [hA,hII];intro j h;have h9:(Int.ofNat j:Int)<(nn:Int):=of_decide_eq_true h;have h8:j<nn:=Int.ofNat_lt.1 h9;exact za3 h8 (by omega)
 have e1:∀ j:Nat,j≤kk→A.lt (II j) (A.len nn)=false→j=kk:=by
  rw [hA,hII];intro j hj h
  have h9:¬ (Int.ofNat j:Int)<(nn:Int):=of_decide_eq_false h
  have h8:nn≤j:=Nat.le_of_not_lt fun h3=>h9 (Int.ofNat_lt.2 h3)
  omega
 have e2:∀ j:Nat,j≤kk→A.lt (II j) (A.len nn)=true→A.eq (TT j) (EE j)=false→j=kk:=by
  rw [hA,hII];intro j hj h h'
  have h9:(Int.ofNat j:Int)<(nn:Int):=of_decide_eq_true h
  have h8:j<nn:=Int.ofNat_lt.1 h9
  have h7:¬ TT j=EE j:=by simpa [std] using h'
  rcases Nat.lt_or_ge j kk with h6|h6
  ·exact absurd (key j h8 h6) h7
  ·omega
 have i0e:II 0=0:=by rw [hII];rfl
 have w1:A.add .i64 z0 (A.len nn)=eI:=by rw [hA,hz0,heI];exact (wrapS (by omega) (by show (0:Int)≤(nn:Int);omega) (by show (i0:Int)+(nn:Int)≤1000000;omega)).trans (by show (i0:Int)+(nn:Int)=_;omega)
 have w2:A.mx cm (A.mn c eI)=C2:=by rw [hA,heI,hC2];show (if (if (F.length:Int)<c then (F.length:Int) else c) > cm then (if (F.length:Int)<c then (F.length:Int) else c) else cm)=_;split<;>split<;>omega
 have v9:∀ j:Nat,j≤kk→A.lt (II j) (A.len nn)=true:=by rw [hA,hII];intro j hj;exact decide_eq_true (by show (Int.ofNat j:Int)<(nn:Int);exact Int.ofNat_lt.2 (by omega))
 have v0:A.lt (II kk) (A.len nn)=true:=by rw [hA,hII];exact decide_eq_true (by show (Int.ofNat kk:Int)<(nn:Int);exact Int.ofNat_lt.2 (by omega))
 have v1:A.add .i64 z0 (II kk)=ln:=by rw [hA,hz0,hII,hln];exact (wrapS (by omega) (by show (0:Int)≤(kk:Int);omega) (by show (i0:Int)+(kk:Int)≤1000000;omega)).trans (by show (i0:Int)+(kk:Int)=_;omega)
 have v2:A.lt ln cm=false:=by rw [hA,hln];exact decide_eq_false (by omega)
 have v3:A.cutok (II kk) (A.len nn) nn=true:=by rw [hA,hII];exact decide_eq_true ⟨by show (0:Int)≤(kk:Int);omega,by show (kk:Int)≤(nn:Int);omega,by show (nn:Int)≤(nn:Int);omega⟩
 have v4:A.cutn (II kk) (A.len nn)=n2:=by rw [hA,hII,hn2];show ((nn:Int)).toNat-(Int.ofNat kk).toNat=_;rw [List.length_drop];show nn-kk=_;omega
 have v5:A.tak LV (A.idx 0 (II kk) 10) n2 10=L2:=by
  have h9:=dropLog (F.drop i0) kk (by omega)
  rw [List.drop_drop,show i0+kk=lg.length by omega] at h9
  rw [hA,hLV,hII,hL2,←h9,hn2]
  congr 1
  rw [List.length_drop,List.length_drop];omega
 unfold rb at *;clear key keyF
 have tok:True:=trivial
 have f0:A.lt t t=false:=fF hA (by omega)
 have f1:A.eq 1 3=false:=by rw [hA];rfl
 change Hid _ at hA hpre hp hpos hen hs hnn hLV hkk hz0 hzm hln heI hC2 hII hZI hTT hEE hpt hO hn2 hL2 hO2
 refine zad (D:=ords256) (fnO zh3 Tryz.func256) 126 (fun w0 own ps R hpl hR kE=>?_)
 refine kN ?_
 repeat' (conv=>arg 3;try cbv);first
  | ((have hjk:=e2 j hj (v9 j hj) (by assumption);clear tok q2;subst hjk))
  | (((with_reducible refine kL ?_);refine zau 0 (α:={ j:Nat // j≤kk }) [58,59,60,61,62,63,64,65,66,67,68,69,70,71,72,73,74,75,76,77,78,79,80,81,82] (fun x=>[(5,.one (.val (.int .i64 (II x.1))))]) (fun x=>kk-x.1) ⟨0,Nat.zero_le _⟩ (by dsimp only;simp only [i0e]<;>cbv<;>try simp) (fun x y hy=>za0 hy trivial) rfl (fun x L' hok hL1 hL2=>?_);obtain ⟨j,hj⟩:=x;dsimp only;refine kN ?_))
  | (((with_reducible refine kA ?_);have hlt:=l1 j hj (v9 j hj) (by assumption);have hstep:=l2 j (v9 j hj);refine zao ⟨rfl,rfl,rfl⟩ hok hL2 ⟨j+1,hlt⟩ (show kk-(j+1)<kk-j by omega) (by dsimp only;simp only [hstep];cbv;simp) rfl))
  | ((with_reducible refine kC ?_);(first|refine nP [.same 0,.same 1] tn ?_|refine nP [.same 0,.same 1] tt ?_|refine nP [.same 1] tp ?_|refine nP [.same 1] ((tq j)) ?_|(refine kX [.same 0,.same 1,.rd (.rsl 4 n2)] tr (fun W1=>?_);refine kN ?_)|refine nM [.same 0,.same 1] (ts _) ?_))
  | ((with_reducible refine kG ?_);refine kR1 hR [0,1,2,5,6] ⟨rfl,_,rfl⟩)
  | simp only [FG,f0,f1,g0,g1,w1,w2,v0,v1,v2,v3,v4,v5, *]
  | (split<;>(rename_i hsp;try simp only [FG] at hsp))
theorem zjr (id n cm vo x0 x1 x2 x3 x4 y0 y1 y2 y3 y4:Int) (t v:Int) (lg F:List (Int × EnD)) (D:List UInt8) (W:Nat→Prop) (prev:Int) (src to:Int) (ok:Bool) (i0:Nat) (c:Int) (hlb:F.length≤4096) (hpre:lg <+: F) (hi:i0≤lg.length) (hp:0<i0→(atJ lg ((i0:Int)-1)).1=prev) (hc:0≤c∧c≤4096) (hcm:0≤cm∧cm≤lg.length) (hpos:∀ x∈F,1≤x.1) (heq:lg.length=F.length):TriM Tryz.prog 256 [.one (.ptr 0 0 0),.agg [.val (iv 3),.val (iv src),.val (iv to),.val (iv t),.val (iv (i0:Int)),.val (iv prev),.val (iv c),.val (.bool ok),.rsl 2 (F.drop i0).length]] ([rb id n (1) cm vo x0 x1 x2 x3 x4 y0 y1 y2 y3 y4,PJ (⟨⟨t,v,lg⟩,D,(D.length:Int)⟩:JD) W,.rs (F.drop i0).length (logV (F.drop i0))]) (.one (.gsl 3 1)) [rb id n (1) ((max cm (min c (F.length:Int)))) vo x0 x1 x2 x3 x4 y0 y1 y2 y3 y4,PJ (⟨⟨t,v,F⟩,D,(D.length:Int)⟩:JD) W,.rs (F.drop i0).length (logV (F.drop i0)),.grow 226 9 1 [iv 4,iv id,iv src,iv t,iv (F.length:Int),iv 0,iv 0,.bool true,.slice none 0 0],.obj (poolO [atO (.grow 270 10 0 []) (0,0)])]:=by
 obtain ⟨A,hA,FG⟩:=aF
 have hple:=hpre.length_le
 have hdl:(lg.drop i0).length=lg.length-i0:=List.length_drop
 obtain rfl:lg=F:=hpre.eq_of_length heq
 have tn:TriP _ _ _ [_,.obj (oJ (⟨⟨t,v,lg⟩,D,(D.length:Int)⟩:JD) W)] _:=zbn (id) (n) (1) (cm) (vo) (x0) (x1) (x2) (x3) (x4) (y0) (y1) (y2) (y3) (y4) (⟨⟨t,v,lg⟩,D,(D.length:Int)⟩:JD) W
 have tt:TriP _ _ _ [_,.obj (oJ (⟨⟨t,v,lg⟩,D,(D.length:Int)⟩:JD) W)] _:=zam (id) (n) (1) (cm) (vo) (x0) (x1) (x2) (x3) (x4) (y0) (y1) (y2) (y3) (y4) (⟨⟨t,v,lg⟩,D,(D.length:Int)⟩:JD) W
 have tp:TriP _ _ _ [.obj (oJ (⟨⟨t,v,lg⟩,D,(D.length:Int)⟩:JD) W)] _:=zch (⟨⟨t,v,lg⟩,D,(D.length:Int)⟩:JD) ((i0:Int)-1) W
 have ts:TriM _ _ _ [_,.obj (oJ (⟨⟨t,v,lg⟩,D,(D.length:Int)⟩:JD) W)] _ [_,.obj (oJ (⟨⟨t,v,lg⟩,D,(D.length:Int)⟩:JD) W),_,_]:=zkk (id) (n) (1) ((max cm (min c (lg.length:Int)))) (vo) (x0) (x1) (x2) (x3) (x4) (y0) (y1) (y2) (y3) (y4) (⟨⟨t,v,lg⟩,D,(D.length:Int)⟩:JD) W src (lg.length:Int) true
 change TriM _ _ _ [rb id n (1) cm vo x0 x1 x2 x3 x4 y0 y1 y2 y3 y4,.obj (oJ (⟨⟨t,v,lg⟩,D,(D.length:Int)⟩:JD) W),_] _ [rb id n (1) ((max cm (min c (lg.length:Int)))) vo x0 x1 x2 x3 x4 y0 y1 y2 y3 y4,.obj (oJ (⟨⟨t,v,lg⟩,D,(D.length:Int)⟩:JD) W),_,_,_];obtain ⟨nn,hnn⟩:=nm ((lg.drop i0).length);obtain ⟨LV,hLV⟩:=nm (logV (lg.drop i0));obtain ⟨kk,hkk⟩:=nm (lg.length-i0);obtain ⟨z0,hz0⟩:=nm ((i0:Int));obtain ⟨zm,hzm⟩:=nm ((i0:Int)-1);obtain ⟨ln,hln⟩:=nm ((lg.length:Int));obtain ⟨C2,hC2⟩:=nm ((max cm (min c (lg.length:Int))))
 obtain ⟨II,hII⟩:=nm (fun j:Nat=>Int.ofNat j)
 obtain ⟨ZI,hZI⟩:=nm (fun j:Nat=>((i0+j:Nat):Int))
 obtain ⟨TT,hTT⟩:=nm (fun j:Nat=>(atJ lg ((i0+j:Nat):Int)).1)
 obtain ⟨EE,hEE⟩:=nm (fun j:Nat=>((lg.drop i0).getD j (0,EnD.of [])).1)
 obtain ⟨pt,hpt⟩:=nm ((atJ lg ((i0:Int)-1)).1);obtain ⟨O,hO⟩:=nm (oJ (⟨⟨t,v,lg⟩,D,(D.length:Int)⟩:JD) W)
 try dsimp only at tn
 try dsimp only at tt
 try dsimp only at tp
 have tq:∀ j:Nat,TriP Tryz.prog 293 [.one (.ptr 0 0 0),.one (.val (.int .i64 (ZI j)))] [.obj O] (.one (.val (.int .i64 (TT j)))):=by
  intro j;rw [hZI,hTT,hO];exact zch (⟨⟨t,v,lg⟩,D,(D.length:Int)⟩:JD) ((i0+j:Nat):Int) W
 simp only [←hO] at tn tt tp ts ⊢;simp only [←hnn,←hLV,←hC2] at tn tt ts ⊢;simp only [←hpt] at tp hp;simp only [←hzm] at tp;simp only [←hz0] at tp ⊢;simp only [←hln] at tn ts ⊢
 have g0:A.lt ln z0=false:=by rw [hA,hln,hz0];exact decide_eq_false (by omega)
 have g1:A.sub .i64 z0 1=zm:=by rw [hA,hz0,hzm];exact wrap64 (by omega) (by omega)
 have g2:A.lt 0 z0=true→A.eq pt prev=true:=by rw [hA,hz0];intro h;have h9:(0:Int)<(i0:Int):=of_decide_eq_true h;simp only [std,beq_iff_eq];exact hp (by omega)
 have q1:∀ j:Nat,A.lt (II j) (A.len nn)=true→A.inb (II j) nn=true:=by rw [hA,hII];intro j h;have h9:(Int.ofNat j:Int)<(nn:Int):=of_decide_eq_true h;simp [std];exact Int.ofNat_lt.1 h9
 have q2:∀ j:Nat,A.lt (II j) (A.len nn)=true→A.add .i64 z0 (II j)=ZI j:=by rw [hA,hII,hz0,hZI];intro j h;have h9:(Int.ofNat j:Int)<(nn:Int):=of_decide_eq_true h;have h8:j<nn:=Int.ofNat_lt.1 h9;exact (wrapS (by omega) (by show (0:Int)≤(j:Int);omega) (by show (i0:Int)+(j:Int)≤1000000;omega)).trans (by show (i0:Int)+(j:Int)=((i0+j:Nat):Int);omega)
 have q3:∀ j:Nat,A.lt (II j) (A.len nn)=true→A.get LV (A.idx 0 (II j) 10) 0=some (.int .i64 (EE j)):=by
  rw [hA,hII,hLV,hEE];intro j h;have h9:(Int.ofNat j:Int)<(nn:Int):=of_decide_eq_true h;have h8:j<nn:=Int.ofNat_lt.1 h9
  have:=rowF entV 10 (fun _=>rfl) (lg.drop i0) (0,EnD.of []) 0 (by omega) (Int.ofNat j) (by rw [←hnn];simp [std];exact h8)
  rw [show logV (lg.drop i0)=(lg.drop i0).flatMap entV from rfl,this]
  rfl
 have key:∀ j:Nat,j<nn→j<kk→TT j=EE j:=by
  intro j h1 h2;rw [hTT,hEE];obtain ⟨r,hr⟩:=hpre
  have h3:i0+j<lg.length:=by omega
  have e1:(lg.drop i0).getD j (0,EnD.of [])=lg[i0+j]:=by
   have h4:=List.getElem?_append_left (l₂:=r) h3
   rw [hr] at h4;simp only [List.getD_eq_getElem?_getD,List.getElem?_drop];rw [h4,List.getElem?_eq_getElem h3];rfl
  have e2:atJ lg ((i0+j:Nat):Int)=lg[i0+j]:=by
   unfold atJ
   rw [if_pos ⟨by omega,by omega⟩,Int.toNat_natCast]
   simp [List.getD_eq_getElem?_getD,List.getElem?_eq_getElem h3]
  dsimp only;rw [e1,e2]
 have keyF:∀ j:Nat,j<nn→j=kk→TT j≠EE j:=by
  intro j h1 h2;rw [hTT,hEE]
  have e2:(atJ lg ((i0+j:Nat):Int)).1=0:=by
   unfold atJ
   rw [if_neg (by omega)]
  have h3:j<(lg.drop i0).length:=by omega
  have e1:(lg.drop i0).getD j (0,EnD.of [])=(lg.drop i0)[j]:=by simp [List.getD_eq_getElem?_getD,List.getElem?_eq_getElem h3]
  have h4:=hpos _ (List.mem_of_mem_drop (List.getElem_mem h3))
  dsimp only;rw [e1,e2];omega
 have l1:∀ j:Nat,j≤kk→A.lt (II j) (A.len nn)=true→A.eq (TT j) (EE j)=true→j+1≤kk:=by
  rw [hA,hII];intro j hj h h'
  have h9:(Int.ofNat j:Int)<(nn:Int):=of_decide_eq_true h
  have h8:j<nn:=Int.ofNat_lt.1 h9
  have h7:TT j=EE j:=by simpa [std] using h'
  rcases Nat.lt_or_ge j kk with h6|h6
  ·exact h6
  ·exact absurd h7 (keyF j h8 (by omega))
 have l2:∀ j:Nat,A.lt (II j) (A.len nn)=true→A.add .i64 (II j) 1=II (j+1):=by rw [hA,hII];intro j h;have h9:(Int.ofNat j:Int)<(nn:Int):=of_decide_eq_true h;have h8:j<nn:=Int.ofNat_lt.1 h9;exact za3 h8 (by omega)
 have e1:∀ j:Nat,j≤kk→A.lt (II j) (A.len nn)=false→j=kk:=by
  rw [hA,hII];intro j hj h
  have h9:¬ (Int.ofNat j:Int)<(nn:Int):=of_decide_eq_false h
  have h8:nn≤j:=Nat.le_of_not_lt fun h3=>h9 (Int.ofNat_lt.2 h3)
  omega
 have e2:∀ j:Nat,j≤kk→A.lt (II j) (A.len nn)=true→A.eq (TT j) (EE j)=false→j=kk:=by
  rw [hA,hII];intro j hj h h'
  have h9:(Int.ofNat j:Int)<(nn:Int):=of_decide_eq_true h
  have h8:j<nn:=Int.ofNat_lt.1 h9
  have h7:¬ TT j=EE j:=by simpa [std] using h'
  rcases Nat.lt_or_ge j kk with h6|h6
  ·exact absurd (key j h8 h6) h7
  ·omega
 have i0e:II 0=0:=by rw [hII];rfl
 have w1:A.add .i64 z0 (A.len nn)=ln:=by rw [hA,hz0,hln];exact (wrapS (by omega) (by show (0:Int)≤(nn:Int);omega) (by show (i0:Int)+(nn:Int)≤1000000;omega)).trans (by show (i0:Int)+(nn:Int)=_;omega)
 have w2:A.mx cm (A.mn c ln)=C2:=by rw [hA,hln,hC2];show (if (if (lg.length:Int)<c then (lg.length:Int) else c) > cm then (if (lg.length:Int)<c then (lg.length:Int) else c) else cm)=_;split<;>split<;>omega
 have v8:∀ j:Nat,A.lt (II j) (A.len nn)=true→A.eq (TT j) (EE j)=true:=by
  rw [hA,hII];intro j h
  have h9:(Int.ofNat j:Int)<(nn:Int):=of_decide_eq_true h
  have h8:j<nn:=Int.ofNat_lt.1 h9
  simp only [std,beq_iff_eq]
  exact key j h8 (by omega)
 have v0:A.lt (II kk) (A.len nn)=false:=by rw [hA,hII];exact decide_eq_false (by show ¬ (Int.ofNat kk:Int)<(nn:Int);intro h;have:=Int.ofNat_lt.1 h;omega)
 unfold rb at *;clear key keyF
 have tok:True:=trivial
 have f0:A.lt t t=false:=fF hA (by omega)
 have f1:A.eq 1 3=false:=by rw [hA];rfl
 change Hid _ at hA hpre hp hpos hnn hLV hkk hz0 hzm hln hC2 hII hZI hTT hEE hpt hO
 refine zad (D:=ords256) (fnO zh3 Tryz.func256) 126 (fun w0 own ps R hpl hR kE=>?_)
 refine kN ?_
 repeat' (conv=>arg 3;try cbv);first
  | ((have hjk:=e1 j hj (by assumption);clear tok q2;subst hjk))
  | (((with_reducible refine kL ?_);refine zau 0 (α:={ j:Nat // j≤kk }) [58,59,60,61,62,63,64,65,66,67,68,69,70,71,72,73,74,75,76,77,78,79,80,81,82] (fun x=>[(5,.one (.val (.int .i64 (II x.1))))]) (fun x=>kk-x.1) ⟨0,Nat.zero_le _⟩ (by dsimp only;simp only [i0e]<;>cbv<;>try simp) (fun x y hy=>za0 hy trivial) rfl (fun x L' hok hL1 hL2=>?_);obtain ⟨j,hj⟩:=x;dsimp only;refine kN ?_))
  | (((with_reducible refine kA ?_);have hlt:=l1 j hj (by assumption) (v8 j (by assumption));have hstep:=l2 j (by assumption);refine zao ⟨rfl,rfl,rfl⟩ hok hL2 ⟨j+1,hlt⟩ (show kk-(j+1)<kk-j by omega) (by dsimp only;simp only [hstep];cbv;simp) rfl))
  | ((with_reducible refine kC ?_);(first|refine nP [.same 0,.same 1] tn ?_|refine nP [.same 0,.same 1] tt ?_|refine nP [.same 1] tp ?_|refine nP [.same 1] ((tq j)) ?_|refine nM [.same 0,.same 1] ts ?_))
  | ((with_reducible refine kG ?_);refine kR1 hR [0,1,2,4,5] ⟨rfl,rfl⟩)
  | simp only [FG,f0,f1,g0,g1,w1,w2,v0, *]
  | (split<;>(rename_i hsp;try simp only [FG] at hsp))
def ordsHA:Ords:=[(300,[],0,[0]),(1,[(0,false),(1,false),(2,true),(3,true),(4,true)],5,[]),(6,[(0,false),(1,false),(2,true),(3,true),(4,true),(5,true),(6,true),(7,true),(8,true),(9,true),(10,false),(11,false),(12,false),(13,false),(14,false),(15,false),(16,false),(18,false),(19,false),(17,true),(20,true),(21,true),(22,true)],23,[]),(7,[(0,false),(1,false),(2,false),(3,false),(5,false),(6,false),(7,false),(4,true),(8,true),(9,true),(10,true)],11,[0,1]),(9,[(0,false),(1,true),(2,true),(3,true),(4,true),(5,true),(6,false),(7,false),(8,false),(9,false),(10,false),(11,false),(12,false),(13,false),(15,false),(16,false),(17,false),(18,false),(19,false),(20,false),(14,true),(21,true),(22,true)],23,[]),(17,[(0,false),(1,false),(2,false),(3,false),(4,false),(5,false),(6,false),(7,true),(8,true),(9,true),(10,true),(11,true)],12,[])]
theorem zjq (id n cm vo x0 x1 x2 x3 x4 y0 y1 y2 y3 y4:Int) (X:JD) (W:Nat→Prop) (src to prev c:Int) (ok:Bool) (i0:Nat) (nn:Nat) (LV:List Value) (hi:X.j.log.length<i0) (hlb:X.j.log.length≤4096) (hi4:i0≤4096):TriM Tryz.prog 256 [.one (.ptr 0 0 0),.agg [.val (iv 3),.val (iv src),.val (iv to),.val (iv X.j.term),.val (iv (i0:Int)),.val (iv prev),.val (iv c),.val (.bool ok),.rsl 2 nn]] ([rb id n (1) cm vo x0 x1 x2 x3 x4 y0 y1 y2 y3 y4,PJ X W,.rs nn LV]) (.one (.gsl 3 1)) [rb id n (1) cm vo x0 x1 x2 x3 x4 y0 y1 y2 y3 y4,PJ X W,.rs nn LV,.grow 226 9 1 [iv 4,iv id,iv src,iv X.j.term,iv (X.j.log.length:Int),iv 0,iv 0,.bool false,.slice none 0 0],.obj (poolO [atO (.grow 270 10 0 []) (0,0)])]:=by
 obtain ⟨A,hA,FG⟩:=aF;obtain ⟨O,hO⟩:=nm (oJ X W);change TriM _ _ _ [rb id n (1) cm vo x0 x1 x2 x3 x4 y0 y1 y2 y3 y4,.obj (oJ X W),_] _ [rb id n (1) cm vo x0 x1 x2 x3 x4 y0 y1 y2 y3 y4,.obj (oJ X W),_,_,_];rw [←hO]
 have tn:TriP _ _ _ [_,.obj (oJ X W)] _:=zbn (id) (n) (1) (cm) (vo) (x0) (x1) (x2) (x3) (x4) (y0) (y1) (y2) (y3) (y4) X W
 have tt:TriP _ _ _ [_,.obj (oJ X W)] _:=zam (id) (n) (1) (cm) (vo) (x0) (x1) (x2) (x3) (x4) (y0) (y1) (y2) (y3) (y4) X W
 have ts:TriM _ _ _ [_,.obj (oJ X W)] _ [_,.obj (oJ X W),_,_]:=zkk (id) (n) (1) (cm) (vo) (x0) (x1) (x2) (x3) (x4) (y0) (y1) (y2) (y3) (y4) X W src (X.j.log.length:Int) false
 rw [←hO] at tn tt ts;obtain ⟨jt,hjt⟩:=nm (X.j.term);obtain ⟨ln,hln⟩:=nm ((X.j.log.length:Int));obtain ⟨z0,hz0⟩:=nm ((i0:Int));obtain ⟨zm,hzm⟩:=nm ((i0:Int)-1);simp only [←hjt,←hln] at tn tt ts ⊢;simp only [←hz0] at ⊢
 have g0:A.lt ln z0=true:=by rw [hA,hln,hz0];exact decide_eq_true (by omega)
 have g1:A.sub .i64 z0 1=zm:=by rw [hA,hz0,hzm];exact wrap64 (by omega) (by omega)
 have g2:A.mn ln zm=ln:=by rw [hA,hln,hzm];show (if (i0:Int)-1<(X.j.log.length:Int) then (i0:Int)-1 else (X.j.log.length:Int))=_;rw [if_neg (by omega)]
 unfold rb at *
 have f0:A.lt jt jt=false:=fF hA (by omega)
 have f1:A.eq 1 3=false:=by rw [hA];rfl
 change Hid _ at hA hO hjt hln hz0 hzm
 refine zad (D:=ordsHA) (fnO zh3 Tryz.func256) 126 (fun w0 own ps R hpl hR kE=>?_)
 refine kN ?_
 repeat' (conv=>arg 3;try cbv);first
  | ((with_reducible refine kC ?_);(first|refine nP [.same 0,.same 1] tn ?_|refine nP [.same 0,.same 1] tt ?_|refine nM [.same 0,.same 1] ts ?_))
  | ((with_reducible refine kG ?_);refine kR1 hR [0,1,2,4,5] ⟨rfl,rfl⟩)
  | simp only [FG,f0,f1,g0,g1,g2, *]
  | (split<;>(rename_i hsp;try simp only [FG] at hsp))
end Go.Proofs.YtpigpajgjdcagaaGreat
