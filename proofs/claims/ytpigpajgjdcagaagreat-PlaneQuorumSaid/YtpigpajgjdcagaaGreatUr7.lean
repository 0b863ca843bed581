/- Parts. -/
import Derived.Test.YtpigpajgjdcagaaGreatUr5
set_option linter.unusedSimpArgs false
set_option linter.unusedVariables false
set_option maxRecDepth 100000
set_option maxHeartbeats 60000000
namespace Go.Proofs.YtpigpajgjdcagaaGreat
open Go.RowKit Eng
theorem zap (p:List UInt8) (h:p.length≤110):(frameB sumN p).length≤130:=by
 have:=(zf6 9 (zig (p.length:Int))).2
 simp only [frameB,encI,List.length_append,zgt];omega
theorem zcj (x:Int × EnD):(Rec.ent x.1 x.2).bytes.length≤110:=by
 have h1:=zco (2::x.1::x.2.list)
 have h2:(Rec.ent x.1 x.2).bytes=(2::x.1::x.2.list).flatMap encI:=by rw [←recE];simp [entB]
 rw [h2]
 simpa [EnD.list] using h1
theorem zan (a b:Int):(Rec.term a b).bytes.length≤110:=by
 have:=zco [1,a,b]
 rw [recT] at this;simp at this;omega
def entsD (l:List (Int × EnD)):List UInt8:=l.flatMap fun x=>frameB sumN (Rec.ent x.1 x.2).bytes
theorem zxa (l:List (Int × EnD)):(entsD l).length≤130 * l.length:=by
 induction l with
 | nil=>simp [entsD]
 | cons x l ih =>
   have:=zap _ (zcj x)
   simp only [entsD,List.flatMap_cons,List.length_append,List.length_cons] at *;omega
theorem zsh (l:List (Int × EnD)) {j:Nat} (h:j<l.length):entsD (l.take (j+1))=entsD (l.take j)++frameB sumN (Rec.ent (l.getD j (0,EnD.of [])).1 (l.getD j (0,EnD.of [])).2).bytes:=by
 unfold entsD;rw [List.take_add_one,List.getElem?_eq_getElem h,List.flatMap_append];simp [List.getD_eq_getElem?_getD,h]
theorem ztm (l:List (Int × EnD)) {j:Nat} (h:j<l.length):l.take (j+1)=l.take j++[((l.getD j (0,EnD.of [])).1,(l.getD j (0,EnD.of [])).2)]:=by
 have e:l.getD j (0,EnD.of [])=l[j]:=by simp [List.getD_eq_getElem?_getD,h]
 rw [e,List.take_add_one,List.getElem?_eq_getElem h];rfl
theorem qcw {l:List (Int × EnD)} (h:0<l.length):∃ x∈l,(atJ l ((l.length:Int)-1)).1=x.1:=by
 have hi:((l.length:Int)-1).toNat<l.length:=by omega
 refine ⟨l[((l.length:Int)-1).toNat],List.getElem_mem hi,?_⟩;unfold atJ
 rw [if_pos (by omega),List.getD_eq_getElem?_getD,List.getElem?_eq_getElem hi]
 rfl
structure EntsOk (t:Int) (l:List (Int × EnD)):Prop where
 sh:∀ x∈l,ShapeOk x.2
 i6:∀ x∈l,∀ z∈x.2.list,I6 z
 lo:∀ x∈l,1≤x.1∧x.1≤t∧x.1≤1073741824
theorem qai (t v:Int) (lg l:List (Int × EnD)) (D:List UInt8) (du:Int) (h:EntsOk t l) (hs:(lg++l).Pairwise fun x y=>x.1≤y.1) (hn:lg.length+l.length≤4096) (hb:D.length+130 * l.length≤1000000) {j:Nat} (hj:j<l.length) (W:Nat→Prop) :
 TriX Tryz.prog 249 [.one (.ptr 0 0 0),.one (.val (.int .i64 (l.getD j (0,EnD.of [])).1)),enS (l.getD j (0,EnD.of [])).2] [.obj (oJ ⟨⟨t,v,lg++l.take j⟩,D++entsD (l.take j),du⟩ W)] (vI 0) fun W'=>[.obj (oJ ⟨⟨t,v,lg++l.take (j+1)⟩,D++entsD (l.take (j+1)),du⟩ W')]:=by
 obtain ⟨x,hx⟩:∃ x,x=l.getD j (0,EnD.of []):=⟨_,rfl⟩
 have hxm:x∈l:=by rw [hx];simp [List.getD_eq_getElem?_getD,hj]
 have hlt:(l.take j).length=j:=by simp;omega
 have hel:=zxa (l.take j)
 have hfr:=zap _ (zcj x)
 have hlo:=h.lo x hxm
 rw [zsh l hj,ztm l hj,←hx,←List.append_assoc,←List.append_assoc]
 refine ze8 t v (lg++l.take j) (D++entsD (l.take j)) du x.1 x.2 (h.sh x hxm) (h.i6 x hxm) ⟨hlo.1,hlo.2.2⟩ hlo.2.1 ?_ (by simp;omega) (Nat.le_trans (zcj x) (by omega)) (by simp only [List.length_append];omega) W
 rcases Nat.eq_zero_or_pos (lg++l.take j).length with h0|h0
 ·have:lg++l.take j=[]:=List.eq_nil_of_length_eq_zero h0
  rw [this]
  show (0:Int)≤x.1
  omega
 ·obtain ⟨y,hy,e⟩:=qcw h0
  rw [e]
  have hd:lg++l=(lg++l.take j)++x::l.drop (j+1):=by
   have:x=l[j]:=by rw [hx];simp [List.getD_eq_getElem?_getD,hj]
   rw [this,←List.drop_eq_getElem_cons hj,List.append_assoc,List.take_append_drop]
  rw [hd] at hs
  exact (List.pairwise_append.1 hs).2.2 y hy x (by simp)
theorem getLog (l:List (Int × EnD)) {j:Nat} (h:j<l.length):std.getN (logV l) (std.idx 0 (Int.ofNat j) 10) 0 10=some (entV (l.getD j (0,EnD.of []))):=rowN entV 10 (fun _=>rfl) l (0,EnD.of []) (Int.ofNat j) (by simp [std];omega)
def ordsRR:Ords:=[(300,[],0,[0]),(5,[(0,false),(1,false),(2,false),(3,false),(4,false),(5,false),(6,true),(7,true),(8,true)],9,[1])]
theorem zsv (id n ro cm vo x0 x1 x2 x3 x4 y0 y1 y2 y3 y4:Int) (t v:Int) (lg:List (Int × EnD)) (D:List UInt8) (du:Int) (W:Nat→Prop) (l:List (Int × EnD)) (hen:EntsOk t l) (hs:(lg++l).Pairwise fun x y=>x.1≤y.1) (hn:lg.length+l.length≤4096) (hb:D.length+130 * l.length≤1000000):TriX Tryz.prog 303 [.one (.ptr 0 0 0),.one (.val (.int .i64 (lg.length:Int))),.one (.rsl 2 l.length)] ([rb id n ro cm vo x0 x1 x2 x3 x4 y0 y1 y2 y3 y4,PJ (⟨⟨t,v,lg⟩,D,du⟩:JD) W,.rs l.length (logV l)]) (.tup []) (fun W'=>[rb id n ro cm vo x0 x1 x2 x3 x4 y0 y1 y2 y3 y4,PJ (⟨⟨t,v,lg++l⟩,D++entsD l,((D++entsD l).length:Int)⟩:JD) W',.rs l.length (logV l)]):=by
 obtain ⟨A,hA,FG⟩:=aF
 change TriX _ _ _ [rb id n ro cm vo x0 x1 x2 x3 x4 y0 y1 y2 y3 y4,.obj (oJ (⟨⟨t,v,lg⟩,D,du⟩:JD) W),_] _ (fun W'=>[rb id n ro cm vo x0 x1 x2 x3 x4 y0 y1 y2 y3 y4,.obj (oJ (⟨⟨t,v,lg++l⟩,D++entsD l,((D++entsD l).length:Int)⟩:JD) W'),_])
 have tn:TriP _ _ _ [_,.obj (oJ (⟨⟨t,v,lg⟩,D,du⟩:JD) W)] _:=zbn id n ro cm vo x0 x1 x2 x3 x4 y0 y1 y2 y3 y4 (⟨⟨t,v,lg⟩,D,du⟩:JD) W
 have ty:∀ W,TriX _ _ _ [.obj (oJ ⟨⟨t,v,lg++l⟩,D++entsD l,du⟩ W)] _ (fun W'=>[.obj (oJ ⟨⟨t,v,lg++l⟩,D++entsD l,_⟩ W')]):=fun W=>zfk t v (lg++l) (D++entsD l) du W
 obtain ⟨k,hk⟩:=nm (l.length);obtain ⟨LV,hLV⟩:=nm (logV l)
 obtain ⟨II,hII⟩:=nm (fun j:Nat=>Int.ofNat j)
 obtain ⟨OJ,hOJ⟩:=nm (fun (j:Nat) (W:Nat→Prop)=>oJ ⟨⟨t,v,lg++l.take j⟩,D++entsD (l.take j),du⟩ W)
 obtain ⟨O2,hO2⟩:=nm (fun (W:Nat→Prop)=>oJ ⟨⟨t,v,lg++l⟩,D++entsD l,((D++entsD l).length:Int)⟩ W)
 obtain ⟨O,hO⟩:=nm (oJ ⟨⟨t,v,lg⟩,D,du⟩ W);obtain ⟨p,hp⟩:=nm ((lg.length:Int))
 obtain ⟨c0,hc0⟩:=nm (fun j:Nat=>(l.getD j (0,EnD.of [])).1)
 obtain ⟨c1,hc1⟩:=nm (fun j:Nat=>(l.getD j (0,EnD.of [])).2.kind)
 obtain ⟨c2,hc2⟩:=nm (fun j:Nat=>(l.getD j (0,EnD.of [])).2.tick)
 obtain ⟨c3,hc3⟩:=nm (fun j:Nat=>(l.getD j (0,EnD.of [])).2.tenant)
 obtain ⟨c4,hc4⟩:=nm (fun j:Nat=>(l.getD j (0,EnD.of [])).2.cell)
 obtain ⟨c5,hc5⟩:=nm (fun j:Nat=>(l.getD j (0,EnD.of [])).2.other)
 obtain ⟨c6,hc6⟩:=nm (fun j:Nat=>(l.getD j (0,EnD.of [])).2.epoch)
 obtain ⟨c7,hc7⟩:=nm (fun j:Nat=>(l.getD j (0,EnD.of [])).2.lo)
 obtain ⟨c8,hc8⟩:=nm (fun j:Nat=>(l.getD j (0,EnD.of [])).2.hi)
 obtain ⟨c9,hc9⟩:=nm (fun j:Nat=>(l.getD j (0,EnD.of [])).2.n)
 have tap:∀ j:Nat,A.lt (II j) (A.len k)=true→∀ W,TriX Tryz.prog 249 [.one (.ptr 0 0 0),.one (.val (.int .i64 (c0 j))),.agg [.val (.int .i64 (c1 j)),.val (.int .i64 (c2 j)),.val (.int .i64 (c3 j)),.val (.int .i64 (c4 j)),.val (.int .i64 (c5 j)),.val (.int .i64 (c6 j)),.val (.int .i64 (c7 j)),.val (.int .i64 (c8 j)),.val (.int .i64 (c9 j))]] [.obj (OJ j W)] (vI 0) (fun W'=>[.obj (OJ (j+1) W')]):=by
  intro j hj W;rw [hA,hII,hk] at hj
  have h9:j<l.length:=by have:=of_decide_eq_true hj;exact Int.ofNat_lt.1 this
  rw [hOJ,hc0,hc1,hc2,hc3,hc4,hc5,hc6,hc7,hc8,hc9];exact qai t v lg l D du hen hs hn hb h9 W
 have tyk:∀ W,TriX Tryz.prog 250 [.one (.ptr 0 0 0)] [.obj (OJ k W)] (.tup []) (fun W'=>[.obj (O2 W')]):=by
  intro W;rw [hOJ,hO2,hk];dsimp only;rw [List.take_length];exact ty W
 clear ty
 have l1:∀ j:Nat,A.lt (II j) (A.len k)=true→j+1≤k:=by rw [hA,hII,hk];intro j h;have:=of_decide_eq_true h;exact Int.ofNat_lt.1 this
 have l4:∀ j:Nat,A.lt (II j) (A.len k)=false→k≤j:=by rw [hA,hII,hk];intro j h;have h2:=of_decide_eq_false h;exact Nat.le_of_not_lt fun h3=>h2 (Int.ofNat_lt.2 h3)
 have l2:∀ j:Nat,A.lt (II j) (A.len k)=true→A.add .i64 (II j) 1=II (j+1):=by intro j hj;have:=l1 j hj;rw [hA,hII];exact (wrap64 (by simp;omega) (by simp;omega)).trans (by simp)
 have g1:∀ j:Nat,A.lt (II j) (A.len k)=true→A.inb (II j) k=true:=by intro j hj;have:=l1 j hj;rw [hA,hII];simp [std];omega
 have g2:∀ j:Nat,A.lt (II j) (A.len k)=true→A.getN LV (A.idx 0 (II j) 10) 0 10=some [.int .i64 (c0 j),.int .i64 (c1 j),.int .i64 (c2 j),.int .i64 (c3 j),.int .i64 (c4 j),.int .i64 (c5 j),.int .i64 (c6 j),.int .i64 (c7 j),.int .i64 (c8 j),.int .i64 (c9 j)]:=by
  intro j hj
  have h9:=l1 j hj
  rw [hA,hII,hLV,hc0,hc1,hc2,hc3,hc4,hc5,hc6,hc7,hc8,hc9]
  exact getLog l (by rw [←hk];omega)
 have e0:OJ 0 W=O:=by rw [hOJ,hO];simp [entsD]
 have i0:II 0=0:=by rw [hII];rfl
 simp only [←hp] at tn ⊢;simp only [←hO,←hk,←hLV] at tn ⊢
 have hO2':(fun W'=>[rb id n ro cm vo x0 x1 x2 x3 x4 y0 y1 y2 y3 y4,MB.obj (oJ (⟨⟨t,v,lg++l⟩,D++entsD l,((D++entsD l).length:Int)⟩:JD) W'),.rs k LV])=(fun W'=>[rb id n ro cm vo x0 x1 x2 x3 x4 y0 y1 y2 y3 y4,MB.obj (O2 W'),.rs k LV]):=by rw [hO2]
 rw [hO2'];unfold rb at *
 have f0:A.lt p p=false:=fF hA (by omega)
 change Hid _ at hA hen hs hk hLV hII hOJ hO2 hO hp hc0 hc1 hc2 hc3 hc4 hc5 hc6 hc7 hc8 hc9
 refine zad (D:=ordsRR) (fnO zt3 Tryz.func303) 36 (fun w0 own ps R hpl hR kE=>?_)
 refine kN ?_
 repeat' (conv=>arg 3;try cbv);first
  | (((with_reducible refine kL ?_);refine zas 0 (α:={ j:Nat // j≤k } × (Nat→Prop)) [7,21,22,23,24,25,26,27,28,29,30,31,32,33] (fun x=>[(20,.one (.val (.int .i64 (II x.1.1))))]) (fun x=>[.own 260 [.ptr 1 0 0,.val (iv id),.val (iv n),.val (iv ro),.val (iv cm),.val (iv vo),.val (iv x0),.val (iv x1),.val (iv x2),.val (iv x3),.val (iv x4),.val (iv y0),.val (iv y1),.val (iv y2),.val (iv y3),.val (iv y4)],.obj (OJ x.1.1 x.2),.rs k LV]) (fun x=>k-x.1.1) (⟨0,Nat.zero_le _⟩,W) (by dsimp only;simp only [i0]<;>cbv<;>try simp) (by dsimp only;simp only [e0]<;>rfl) (fun x=>rfl) (fun x y hy=>za0 hy trivial) rfl (fun x L' hL1 hL2=>?_);obtain ⟨⟨j,hj⟩,Wj⟩:=x;dsimp only;refine kN ?_))
  | (((with_reducible refine kA ?_);have hlt:=l1 j (by assumption);have hstep:=l2 j (by assumption);refine zal (l:=[0,1,2]) ⟨rfl,rfl,rfl⟩ hL2 (⟨j+1,hlt⟩,_) (show k-(j+1)<k-j by omega) rfl rfl (by rw [hpl];rfl) (zaj (n:=3) rfl) (zav (by cbv<;>trivial)) ⟨(by first|exact .inl rfl|exact .inr rfl),(by first|exact .inl rfl|exact .inr rfl),(by first|exact .inl rfl|exact .inr rfl),trivial⟩ (by dsimp only;(try simp only [hstep])<;>cbv<;>try simp)))
  | ((with_reducible refine kC ?_);(first|refine nP [.same 0,.same 1] tn ?_|(refine kX [.same 1] ((tap j (by assumption) _)) (fun W1=>?_);refine kN ?_)|((have hjj:j=k:=Nat.le_antisymm hj (l4 j (by assumption)));subst hjj;refine kX [.same 1] (tyk _) (fun W1=>?_);refine kN ?_)))
  | ((with_reducible refine kG ?_);refine kO0 hR 3 ⟨rfl,_,rfl⟩)
  | ((with_reducible refine kZ ?_);refine zbp hR 3 (by rfl) (by rfl) (by rfl) (Nat.le_refl 3) ⟨rfl,_,rfl⟩)
  | simp only [*]
  | (split<;>(rename_i hsp;try simp only [FG] at hsp))
theorem zjo (id n ro cm vo x0 x1 x2 x3 x4 y0 y1 y2 y3 y4:Int) (X:JD) (W:Nat→Prop) (src to term index prev commit:Int) (ok:Bool) (a1:to=id) (a2:src≠id) (a3:0≤src∧src<n) (a4:1≤term∧term≤1073741824) (a5:0≤index∧index≤4096) (a6:0≤prev∧prev≤term) (a7:0≤commit∧commit≤4096):TriP Tryz.prog 253 [.one (.ptr 0 0 0),.agg [.val (iv 1),.val (iv src),.val (iv to),.val (iv term),.val (iv index),.val (iv prev),.val (iv commit),.val (.bool ok),.val (.slice none 0 0)]] ([rb id n ro cm vo x0 x1 x2 x3 x4 y0 y1 y2 y3 y4,PJ X W]) (vB true):=by
 obtain ⟨A,hA,FG⟩:=aF;obtain ⟨O,hO⟩:=nm (oJ X W);change TriP _ _ _ [rb id n ro cm vo x0 x1 x2 x3 x4 y0 y1 y2 y3 y4,.obj (oJ X W)] _;rw [←hO];unfold rb;obtain rfl:=a1
 have f0:A.eq to to=true:=by
  rw [hA];simp [std]
 have f1:A.eq src to=false:=by
  rw [hA];simp [std];exact a2
 have f2:A.lt src 0=false:=fF hA (by omega)
 have f3:A.le n src=false:=gF hA (by omega)
 have f4:A.lt term 1=false:=fF hA (by omega)
 have f5:A.lt 1073741824 term=false:=fF hA (by omega)
 have f6:A.lt index 0=false:=fF hA (by omega)
 have f7:A.lt 4096 index=false:=fF hA (by omega)
 have f8:A.lt prev 0=false:=fF hA (by omega)
 have f9:A.lt term prev=false:=fF hA (by omega)
 have f10:A.lt commit 0=false:=fF hA (by omega)
 have f11:A.lt 4096 commit=false:=fF hA (by omega)
 have f12:A.eq 1 1=true∧A.eq 1 2=false∧A.eq 1 3=false∧A.eq 1 4=false∧A.eq 2 1=false∧A.eq 2 2=true∧A.eq 2 3=false∧A.eq 2 4=false∧A.eq 3 1=false∧A.eq 3 2=false∧A.eq 3 3=true∧A.eq 3 4=false∧A.eq 4 1=false∧A.eq 4 2=false∧A.eq 4 3=false∧A.eq 4 4=true:=by rw [hA];exact ⟨rfl,rfl,rfl,rfl,rfl,rfl,rfl,rfl,rfl,rfl,rfl,rfl,rfl,rfl,rfl,rfl⟩
 change Hid _ at hA hO
 refine zad (D:=ords253) (fnO zfm Tryz.func253) 85 (fun w0 own ps R hpl hR kE=>?_)
 refine kN ?_
 repeat' (conv=>arg 3;try cbv);first
  | ((with_reducible refine kG ?_);refine kO1 hR 2 ⟨?_,by rfl⟩)
  | simp only [*]
  | (split<;>(rename_i hsp;try simp only [FG] at hsp))
 all_goals rfl
theorem zjn (id n ro cm vo x0 x1 x2 x3 x4 y0 y1 y2 y3 y4:Int) (X:JD) (W:Nat→Prop) (src to term index prev commit:Int) (ok:Bool) (a1:to=id) (a2:src≠id) (a3:0≤src∧src<n) (a4:1≤term∧term≤1073741824) (a5:0≤index∧index≤4096) (a6:0≤prev∧prev≤term) (a7:0≤commit∧commit≤4096):TriP Tryz.prog 253 [.one (.ptr 0 0 0),.agg [.val (iv 2),.val (iv src),.val (iv to),.val (iv term),.val (iv index),.val (iv prev),.val (iv commit),.val (.bool ok),.val (.slice none 0 0)]] ([rb id n ro cm vo x0 x1 x2 x3 x4 y0 y1 y2 y3 y4,PJ X W]) (vB true):=by
 obtain ⟨A,hA,FG⟩:=aF;obtain ⟨O,hO⟩:=nm (oJ X W);change TriP _ _ _ [rb id n ro cm vo x0 x1 x2 x3 x4 y0 y1 y2 y3 y4,.obj (oJ X W)] _;rw [←hO];unfold rb;obtain rfl:=a1
 have f0:A.eq to to=true:=by
  rw [hA];simp [std]
 have f1:A.eq src to=false:=by
  rw [hA];simp [std];exact a2
 have f2:A.lt src 0=false:=fF hA (by omega)
 have f3:A.le n src=false:=gF hA (by omega)
 have f4:A.lt term 1=false:=fF hA (by omega)
 have f5:A.lt 1073741824 term=false:=fF hA (by omega)
 have f6:A.lt index 0=false:=fF hA (by omega)
 have f7:A.lt 4096 index=false:=fF hA (by omega)
 have f8:A.lt prev 0=false:=fF hA (by omega)
 have f9:A.lt term prev=false:=fF hA (by omega)
 have f10:A.lt commit 0=false:=fF hA (by omega)
 have f11:A.lt 4096 commit=false:=fF hA (by omega)
 have f12:A.eq 1 1=true∧A.eq 1 2=false∧A.eq 1 3=false∧A.eq 1 4=false∧A.eq 2 1=false∧A.eq 2 2=true∧A.eq 2 3=false∧A.eq 2 4=false∧A.eq 3 1=false∧A.eq 3 2=false∧A.eq 3 3=true∧A.eq 3 4=false∧A.eq 4 1=false∧A.eq 4 2=false∧A.eq 4 3=false∧A.eq 4 4=true:=by rw [hA];exact ⟨rfl,rfl,rfl,rfl,rfl,rfl,rfl,rfl,rfl,rfl,rfl,rfl,rfl,rfl,rfl,rfl⟩
 change Hid _ at hA hO
 refine zad (D:=ords253) (fnO zfm Tryz.func253) 85 (fun w0 own ps R hpl hR kE=>?_)
 refine kN ?_
 repeat' (conv=>arg 3;try cbv);first
  | ((with_reducible refine kG ?_);refine kO1 hR 2 ⟨?_,by rfl⟩)
  | simp only [*]
  | (split<;>(rename_i hsp;try simp only [FG] at hsp))
 all_goals rfl
theorem zjm (id n ro cm vo x0 x1 x2 x3 x4 y0 y1 y2 y3 y4:Int) (X:JD) (W:Nat→Prop) (src to term index prev commit:Int) (ok:Bool) (a1:to=id) (a2:src≠id) (a3:0≤src∧src<n) (a4:1≤term∧term≤1073741824) (a5:0≤index∧index≤4096) (a6:0≤prev∧prev≤term) (a7:0≤commit∧commit≤4096):TriP Tryz.prog 253 [.one (.ptr 0 0 0),.agg [.val (iv 4),.val (iv src),.val (iv to),.val (iv term),.val (iv index),.val (iv prev),.val (iv commit),.val (.bool ok),.val (.slice none 0 0)]] ([rb id n ro cm vo x0 x1 x2 x3 x4 y0 y1 y2 y3 y4,PJ X W]) (vB true):=by
 obtain ⟨A,hA,FG⟩:=aF;obtain ⟨O,hO⟩:=nm (oJ X W);change TriP _ _ _ [rb id n ro cm vo x0 x1 x2 x3 x4 y0 y1 y2 y3 y4,.obj (oJ X W)] _;rw [←hO];unfold rb;obtain rfl:=a1
 have f0:A.eq to to=true:=by
  rw [hA];simp [std]
 have f1:A.eq src to=false:=by
  rw [hA];simp [std];exact a2
 have f2:A.lt src 0=false:=fF hA (by omega)
 have f3:A.le n src=false:=gF hA (by omega)
 have f4:A.lt term 1=false:=fF hA (by omega)
 have f5:A.lt 1073741824 term=false:=fF hA (by omega)
 have f6:A.lt index 0=false:=fF hA (by omega)
 have f7:A.lt 4096 index=false:=fF hA (by omega)
 have f8:A.lt prev 0=false:=fF hA (by omega)
 have f9:A.lt term prev=false:=fF hA (by omega)
 have f10:A.lt commit 0=false:=fF hA (by omega)
 have f11:A.lt 4096 commit=false:=fF hA (by omega)
 have f12:A.eq 1 1=true∧A.eq 1 2=false∧A.eq 1 3=false∧A.eq 1 4=false∧A.eq 2 1=false∧A.eq 2 2=true∧A.eq 2 3=false∧A.eq 2 4=false∧A.eq 3 1=false∧A.eq 3 2=false∧A.eq 3 3=true∧A.eq 3 4=false∧A.eq 4 1=false∧A.eq 4 2=false∧A.eq 4 3=false∧A.eq 4 4=true:=by rw [hA];exact ⟨rfl,rfl,rfl,rfl,rfl,rfl,rfl,rfl,rfl,rfl,rfl,rfl,rfl,rfl,rfl,rfl⟩
 change Hid _ at hA hO
 refine zad (D:=ords253) (fnO zfm Tryz.func253) 85 (fun w0 own ps R hpl hR kE=>?_)
 refine kN ?_
 repeat' (conv=>arg 3;try cbv);first
  | ((with_reducible refine kG ?_);refine kO1 hR 2 ⟨?_,by rfl⟩)
  | simp only [*]
  | (split<;>(rename_i hsp;try simp only [FG] at hsp))
 all_goals rfl
theorem zq2 (src to term index prev commit:Int) (ok:Bool) (l:List (Int × EnD)) (h5:0≤index∧index≤4096) (h8:prev=0↔index=0) (h9:index+l.length≤4096) (h10:∀ x∈l,ShapeOk x.2) (h11:∀ x∈l,max 1 prev≤x.1∧x.1≤term) (h12:l.Pairwise fun x y=>x.1≤y.1):TriP Tryz.prog 300 [.agg [.val (iv 3),.val (iv src),.val (iv to),.val (iv term),.val (iv index),.val (iv prev),.val (iv commit),.val (.bool ok),.rsl 0 l.length]] ([.rs l.length (logV l)]) (vB true):=by
 obtain ⟨A,hA,FG⟩:=aF;obtain ⟨k,hk⟩:=nm (l.length);obtain ⟨LV,hLV⟩:=nm (logV l)
 obtain ⟨II,hII⟩:=nm (fun j:Nat=>Int.ofNat j)
 obtain ⟨LO,hLO⟩:=nm (fun j:Nat=>if j=0 then max 1 prev else (l.getD (j-1) (0,EnD.of [])).1)
 obtain ⟨c0,hc0⟩:=nm (fun j:Nat=>(l.getD j (0,EnD.of [])).1)
 obtain ⟨c1,hc1⟩:=nm (fun j:Nat=>(l.getD j (0,EnD.of [])).2.kind)
 obtain ⟨c2,hc2⟩:=nm (fun j:Nat=>(l.getD j (0,EnD.of [])).2.tick)
 obtain ⟨c3,hc3⟩:=nm (fun j:Nat=>(l.getD j (0,EnD.of [])).2.tenant)
 obtain ⟨c4,hc4⟩:=nm (fun j:Nat=>(l.getD j (0,EnD.of [])).2.cell)
 obtain ⟨c5,hc5⟩:=nm (fun j:Nat=>(l.getD j (0,EnD.of [])).2.other)
 obtain ⟨c6,hc6⟩:=nm (fun j:Nat=>(l.getD j (0,EnD.of [])).2.epoch)
 obtain ⟨c7,hc7⟩:=nm (fun j:Nat=>(l.getD j (0,EnD.of [])).2.lo)
 obtain ⟨c8,hc8⟩:=nm (fun j:Nat=>(l.getD j (0,EnD.of [])).2.hi)
 obtain ⟨c9,hc9⟩:=nm (fun j:Nat=>(l.getD j (0,EnD.of [])).2.n)
 have ln1:∀ j:Nat,A.lt (II j) (A.len k)=true→j<l.length:=by rw [hA,hII,hk];intro j h;have:=of_decide_eq_true h;exact Int.ofNat_lt.1 this
 have l1:∀ j:Nat,A.lt (II j) (A.len k)=true→j+1≤k:=by intro j h;rw [hk];exact ln1 j h
 have l2:∀ j:Nat,A.lt (II j) (A.len k)=true→A.add .i64 (II j) 1=II (j+1):=by intro j hj;have:=ln1 j hj;rw [hA,hII];exact (wrap64 (by simp;omega) (by simp;omega)).trans (by simp)
 have g1:∀ j:Nat,A.lt (II j) (A.len k)=true→A.inb (II j) k=true:=by intro j hj;have:=ln1 j hj;rw [hA,hII,hk];simp [std];omega
 have g2:∀ j:Nat,A.lt (II j) (A.len k)=true→A.getN LV (A.idx 0 (II j) 10) 0 10=some [.int .i64 (c0 j),.int .i64 (c1 j),.int .i64 (c2 j),.int .i64 (c3 j),.int .i64 (c4 j),.int .i64 (c5 j),.int .i64 (c6 j),.int .i64 (c7 j),.int .i64 (c8 j),.int .i64 (c9 j)]:=by
  intro j hj;rw [hA,hII,hLV,hc0,hc1,hc2,hc3,hc4,hc5,hc6,hc7,hc8,hc9];exact getLog l (ln1 j hj)
 have tsh:∀ j:Nat,A.lt (II j) (A.len k)=true→TriP Tryz.prog 206 [.agg [.val (.int .i64 (c1 j)),.val (.int .i64 (c2 j)),.val (.int .i64 (c3 j)),.val (.int .i64 (c4 j)),.val (.int .i64 (c5 j)),.val (.int .i64 (c6 j)),.val (.int .i64 (c7 j)),.val (.int .i64 (c8 j)),.val (.int .i64 (c9 j))]] [] (vB true):=by
  intro j hj;rw [hc1,hc2,hc3,hc4,hc5,hc6,hc7,hc8,hc9]
  exact h10 _ (by have:=ln1 j hj;simp [List.getD_eq_getElem?_getD,this])
 have g3:∀ j:Nat,A.lt (II j) (A.len k)=true→A.lt (c0 j) (LO j)=false:=by
  intro j hj
  have h9:=ln1 j hj
  rw [hA,hc0,hLO];refine decide_eq_false ?_;dsimp only
  split
  ·rename_i h0
   have:=h11 (l.getD j (0,EnD.of [])) (by simp [List.getD_eq_getElem?_getD,h9])
   omega
  ·rename_i h0
   have hp:=List.pairwise_iff_getElem.1 h12 (j-1) j (by omega) h9 (by omega)
   simp only [List.getD_eq_getElem?_getD,List.getElem?_eq_getElem h9,List.getElem?_eq_getElem (show j-1<l.length by omega),Option.getD_some]
   omega
 have g4:∀ j:Nat,A.lt (II j) (A.len k)=true→A.lt term (c0 j)=false:=by
  intro j hj
  have h9:=ln1 j hj
  rw [hA,hc0]
  have:=h11 (l.getD j (0,EnD.of [])) (by simp [List.getD_eq_getElem?_getD,h9])
  exact decide_eq_false (by dsimp only;omega)
 have g5:∀ j:Nat,c0 j=LO (j+1):=by intro j;rw [hc0,hLO];simp
 have i0:II 0=0:=by rw [hII];rfl
 have L0:A.mx 1 prev=LO 0:=by rw [hA,hLO];show (if prev > 1 then prev else 1)=_;simp only [if_true];omega
 have g6:A.beq (A.eq prev 0) (A.eq index 0)=true:=by rw [hA];show ((prev == 0) == (index == 0))=true;rw [beq_iff_eq,Bool.eq_iff_iff];simpa using h8
 have g7:A.lt 4096 (A.add .i64 index (A.len k))=false:=by
  rw [hA,hk]
  have e:std.add .i64 index (std.len l.length)=index+l.length:=wrap64 (by show (-9223372036854775808:Int)≤index+(l.length:Int);omega) (by show index+(l.length:Int)≤9223372036854775807;omega)
  rw [e]
  exact decide_eq_false (by omega)
 simp only [←hk,←hLV];change Hid _ at hA hk hLV hII hLO hc0 hc1 hc2 hc3 hc4 hc5 hc6 hc7 hc8 hc9 g5 L0 h8 h10 h11 h12
 refine zad (D:=ords300) (fnO zt6 Tryz.func300) 51 (fun w0 own ps R hpl hR kE=>?_)
 refine kN ?_
 repeat' (conv=>arg 3;try cbv);first
  | (((with_reducible refine kL ?_);refine zau 0 (α:={ j:Nat // j≤k }) [2,5,29,30,31,32,33,34,35,36,37,38,39,40,41,42,43,44,45,46,47,48,49,50,51] (fun x=>[(28,.one (.val (.int .i64 (II x.1)))),(3,.one (.val (.int .i64 (LO x.1))))]) (fun x=>k-x.1) ⟨0,Nat.zero_le _⟩ (by dsimp only;simp only [i0,L0.out]<;>cbv<;>(try simp)<;>(try exact L0.out.symm)) (fun x y hy=>zb1 hy trivial trivial) rfl (fun x L' hok hL1 hL2=>?_);obtain ⟨j,hj⟩:=x;dsimp only;refine kN ?_))
  | (((with_reducible refine kA ?_);have hlt:=l1 j (by assumption);have hstep:=l2 j (by assumption);refine zao ⟨rfl,rfl,rfl⟩ hok hL2 ⟨j+1,hlt⟩ (show k-(j+1)<k-j by omega) (by dsimp only;simp only [hstep,g5.out];cbv;simp) rfl))
  | ((with_reducible refine kC ?_);refine nP [] ((tsh j (by assumption))) ?_)
  | ((with_reducible refine kG ?_);refine kO1 hR 1 ⟨?_,by rfl⟩)
  | simp only [FG,g6,g7, *]
  | (split<;>(rename_i hsp;try simp only [FG] at hsp))
 all_goals rfl
theorem zcp (id n ro cm vo x0 x1 x2 x3 x4 y0 y1 y2 y3 y4:Int) (X:JD) (W:Nat→Prop) (src to term index prev commit:Int) (ok:Bool) (l:List (Int × EnD)) (a1:to=id) (a2:src≠id) (a3:0≤src∧src<n) (a4:1≤term∧term≤1073741824) (a5:0≤index∧index≤4096) (a6:0≤prev∧prev≤term) (a7:0≤commit∧commit≤4096) (h8:prev=0↔index=0) (h9:index+l.length≤4096) (h10:∀ x∈l,ShapeOk x.2) (h11:∀ x∈l,max 1 prev≤x.1∧x.1≤term) (h12:l.Pairwise fun x y=>x.1≤y.1):TriP Tryz.prog 253 [.one (.ptr 0 0 0),.agg [.val (iv 3),.val (iv src),.val (iv to),.val (iv term),.val (iv index),.val (iv prev),.val (iv commit),.val (.bool ok),.rsl 2 l.length]] ([rb id n ro cm vo x0 x1 x2 x3 x4 y0 y1 y2 y3 y4,PJ X W,.rs l.length (logV l)]) (vB true):=by
 obtain ⟨A,hA,FG⟩:=aF;obtain ⟨O,hO⟩:=nm (oJ X W);change TriP _ _ _ [rb id n ro cm vo x0 x1 x2 x3 x4 y0 y1 y2 y3 y4,.obj (oJ X W),_] _;rw [←hO]
 have tp:=zq2 src to term index prev commit ok l a5 h8 h9 h10 h11 h12
 obtain ⟨k,hk⟩:=nm (l.length);obtain ⟨LV,hLV⟩:=nm (logV l);simp only [←hk,←hLV] at tp ⊢;obtain rfl:=a1;unfold rb
 have f0:A.eq to to=true:=by
  rw [hA];simp [std]
 have f1:A.eq src to=false:=by
  rw [hA];simp [std];exact a2
 have f2:A.lt src 0=false:=fF hA (by omega)
 have f3:A.le n src=false:=gF hA (by omega)
 have f4:A.lt term 1=false:=fF hA (by omega)
 have f5:A.lt 1073741824 term=false:=fF hA (by omega)
 have f6:A.lt index 0=false:=fF hA (by omega)
 have f7:A.lt 4096 index=false:=fF hA (by omega)
 have f8:A.lt prev 0=false:=fF hA (by omega)
 have f9:A.lt term prev=false:=fF hA (by omega)
 have f10:A.lt commit 0=false:=fF hA (by omega)
 have f11:A.lt 4096 commit=false:=fF hA (by omega)
 have f12:A.eq 1 1=true∧A.eq 1 2=false∧A.eq 1 3=false∧A.eq 1 4=false∧A.eq 2 1=false∧A.eq 2 2=true∧A.eq 2 3=false∧A.eq 2 4=false∧A.eq 3 1=false∧A.eq 3 2=false∧A.eq 3 3=true∧A.eq 3 4=false∧A.eq 4 1=false∧A.eq 4 2=false∧A.eq 4 3=false∧A.eq 4 4=true:=by rw [hA];exact ⟨rfl,rfl,rfl,rfl,rfl,rfl,rfl,rfl,rfl,rfl,rfl,rfl,rfl,rfl,rfl,rfl⟩
 change Hid _ at hA hO hk hLV h8 h10 h11 h12
 refine zad (D:=ords253) (fnO zfm Tryz.func253) 85 (fun w0 own ps R hpl hR kE=>?_)
 refine kN ?_
 repeat' (conv=>arg 3;try cbv);first
  | ((with_reducible refine kC ?_);refine nP [.same 2] tp ?_)
  | ((with_reducible refine kG ?_);refine kO1 hR 3 ⟨?_,by rfl⟩)
  | simp only [*]
  | (split<;>(rename_i hsp;try simp only [FG] at hsp))
 all_goals rfl
end Go.Proofs.YtpigpajgjdcagaaGreat
