/- Parts. -/
import Derived.Test.YtpigpajgjdcagaaGreatUl1
set_option linter.unusedSimpArgs false
set_option linter.unusedVariables false
set_option maxRecDepth 100000
set_option maxHeartbeats 60000000
namespace Go.Proofs.YtpigpajgjdcagaaGreat
open Go.RowKit Eng
theorem qbg:∀ u:Fin 8,∀ i:Fin 3,QuoD.upB (u.val:Int) (i.val:Int)=true→std.bandn .i64 (u.val:Int) (std.shl .i64 1 (i.val:Int))=(u.val:Int)-2 ^ i.val:=by decide
theorem qbf:∀ u:Fin 8,∀ i:Fin 3,QuoD.upB (u.val:Int) (i.val:Int)=false→std.bor .i64 (u.val:Int) (std.shl .i64 1 (i.val:Int))=(u.val:Int)+2 ^ i.val:=by decide
theorem zx2 {up i:Int} (hu:0≤up∧up<8) (hi:0≤i∧i<3) (h:QuoD.upB up i=true):std.bandn .i64 up (std.shl .i64 1 i)=up-2 ^ i.toNat:=by
 have:=qbg ⟨up.toNat,by omega⟩ ⟨i.toNat,by omega⟩
 rw [show ((up.toNat:Nat):Int)=up by omega,show ((i.toNat:Nat):Int)=i by omega] at this
 exact this h
theorem zx1 {up i:Int} (hu:0≤up∧up<8) (hi:0≤i∧i<3) (h:QuoD.upB up i=false):std.bor .i64 up (std.shl .i64 1 i)=up+2 ^ i.toNat:=by
 have:=qbf ⟨up.toNat,by omega⟩ ⟨i.toNat,by omega⟩
 rw [show ((up.toNat:Nat):Int)=up by omega,show ((i.toNat:Nat):Int)=i by omega] at this
 exact this h
theorem zc9 {p:PlaneD} {i:Int} (hi:0≤i∧i<p.n):p.isUp i=QuoD.upB p.up i:=by
 unfold PlaneD.isUp;rw [decide_eq_true hi.1,decide_eq_true hi.2];simp
theorem zom (p:PlaneD) (hp:PlOk p) (i:Int) (hi:0≤i∧i<p.n) (hu:p.isUp i=false) (W:Nat→Prop):TriX Tryz.prog 43 [.one (.ptr 0 0 0),.one (.val (.int .i64 i))] ([PP p W]) (vI 4) (fun W'=>[PP p W']):=by
 obtain ⟨A,hA,FG⟩:=aF;change TriX _ _ _ [.obj (packO (plB p) W)] _ _;replace hA:=kH hA
 refine zad (D:=ords43) (fnO zp2 Tryz.func43) 37 (fun w0 own ps R hpl hR kE=>?_)
 refine zah 0 rfl rfl (fun x=>by simp [plB]) (fun Wq=>?_)
 change Eng.Good _ _ (Eng.St.mk _ _ [.own 151 [.val (iv p.c.regions),.gsl 1 p.c.L.zl,.gsl 2 p.c.L.cl,.gsl 3 p.c.L.tl,.gsl 4 p.c.L.vl,.gsl 5 p.c.L.rl,.gsl 6 p.c.L.ol,.val (iv p.c.blast),.val (iv p.c.lease),.val (iv p.c.bake),.ptr 7 0 0,.val (iv p.up),.val (iv p.s.tick),.val (iv p.s.count),.gsl 8 p.s.L.tl,.gsl 9 p.s.L.cl,.val (iv p.s.proven),.val (iv p.s.evac),.val (iv p.s.low),.val (iv p.s.high)],.grow 75 1 p.c.L.zl p.c.L.zs,.grow 137 2 p.c.L.cl p.c.L.cs,.grow 143 7 p.c.L.tl p.c.L.ts,.grow 141 2 p.c.L.vl p.c.L.vs,.grow 3 1 p.c.L.rl p.c.L.rs,.grow 3 1 p.c.L.ol p.c.L.os,PQ p.q Wq,.grow 134 12 p.s.L.tl p.s.L.ts,.grow 167 4 p.s.L.cl p.s.L.cs]);obtain ⟨K,hK⟩:=nm (p.c.L);obtain ⟨S,hS⟩:=nm (p.s.L);unfold PQ;obtain ⟨OQ,hOQ⟩:=nm (packO (qB p.q) Wq);rw [←hK,←hS,←hOQ]
 have hrl:K.rl=p.n:=by rw [hK];rfl
 replace hA:=hA.out
 have f0:A.lt i 0=false:=by
  rw [hA];simp [std];omega
 have f1:A.le (A.len K.rl) i=false:=by
  rw [hA];rw [hrl];simp [std];omega
 have f2:A.le 0 i=true:=by
  rw [hA];simp [std];omega
 have th:TriP Tryz.prog 95 [.one (.ptr 0 0 0),.one (.val (.int .i64 i))] [.own 151 [.val (iv p.c.regions),.gsl 1 K.zl,.gsl 2 K.cl,.gsl 3 K.tl,.gsl 4 K.vl,.gsl 5 K.rl,.gsl 6 K.ol,.val (iv p.c.blast),.val (iv p.c.lease),.val (iv p.c.bake),.ptr 7 0 0,.val (iv p.up),.val (iv p.s.tick),.val (iv p.s.count),.gsl 8 S.tl,.gsl 9 S.cl,.val (iv p.s.proven),.val (iv p.s.evac),.val (iv p.s.low),.val (iv p.s.high)],.grow 75 1 K.zl K.zs,.grow 137 2 K.cl K.cs,.grow 143 7 K.tl K.ts,.grow 141 2 K.vl K.vs,.grow 3 1 K.rl K.rs,.grow 3 1 K.ol K.os,.obj OQ,.grow 134 12 S.tl S.ts,.grow 167 4 S.cl S.cs] (vB false):=by
  have:=zb3 p Wq hp i
  unfold plB PQ at this;rw [←hK,←hS,←hOQ,hu] at this;exact this
 change Hid _ at hA hK hS hOQ hrl hu;refine kN ?_
 repeat' (conv=>arg 3;try cbv);first
  | ((with_reducible refine kC ?_);refine nP [.same 0,.same 1,.same 2,.same 3,.same 4,.same 5,.same 6,.same 7,.same 8,.same 9] th ?_)
  | ((with_reducible refine kG ?_);rw [hOQ.out,hK.out,hS.out];refine kK 0 [1,2,3,4,5,6,7,8,9] (m:=plB (p)) Wq (fun W'=>?_);refine kO1 hR 1 ⟨rfl,W',rfl⟩)
  | simp only [*]
  | (split<;>(rename_i hsp;try simp only [FG] at hsp))
theorem zol (p:PlaneD) (hp:PlOk p) (i:Int) (hi:0≤i∧i<p.n) (hu:p.isUp i=true) (hC:KOk (p.q.rep i)) (hcm:∀ j:Nat,j<p.q.reps.length→∀ r',r'=(if (j:Int)=i then (p.q.rep i).crash else p.q.rep j)→0≤r'.commit∧r'.commit≤r'.j.log.length∧r'.j.log.length≤4096) (W:Nat→Prop):TriX Tryz.prog 43 [.one (.ptr 0 0 0),.one (.val (.int .i64 i))] ([PP p W]) (vI 0) (fun W'=>[PP { p with up:=p.up-2 ^ i.toNat,q:=p.q.crash i } W']):=by
 obtain ⟨A,hA,FG⟩:=aF;change TriX _ _ _ [.obj (packO (plB p) W)] _ _;replace hA:=kH hA
 refine zad (D:=ords43) (fnO zp2 Tryz.func43) 37 (fun w0 own ps R hpl hR kE=>?_)
 refine zah 0 rfl rfl (fun x=>by simp [plB]) (fun Wq=>?_)
 change Eng.Good _ _ (Eng.St.mk _ _ [.own 151 [.val (iv p.c.regions),.gsl 1 p.c.L.zl,.gsl 2 p.c.L.cl,.gsl 3 p.c.L.tl,.gsl 4 p.c.L.vl,.gsl 5 p.c.L.rl,.gsl 6 p.c.L.ol,.val (iv p.c.blast),.val (iv p.c.lease),.val (iv p.c.bake),.ptr 7 0 0,.val (iv p.up),.val (iv p.s.tick),.val (iv p.s.count),.gsl 8 p.s.L.tl,.gsl 9 p.s.L.cl,.val (iv p.s.proven),.val (iv p.s.evac),.val (iv p.s.low),.val (iv p.s.high)],.grow 75 1 p.c.L.zl p.c.L.zs,.grow 137 2 p.c.L.cl p.c.L.cs,.grow 143 7 p.c.L.tl p.c.L.ts,.grow 141 2 p.c.L.vl p.c.L.vs,.grow 3 1 p.c.L.rl p.c.L.rs,.grow 3 1 p.c.L.ol p.c.L.os,PQ p.q Wq,.grow 134 12 p.s.L.tl p.s.L.ts,.grow 167 4 p.s.L.cl p.s.L.cs]);obtain ⟨K,hK⟩:=nm (p.c.L);obtain ⟨S,hS⟩:=nm (p.s.L);unfold PQ;obtain ⟨OQ,hOQ⟩:=nm (packO (qB p.q) Wq);rw [←hK,←hS,←hOQ]
 have hrl:K.rl=p.n:=by rw [hK];rfl
 replace hA:=hA.out;obtain ⟨u2,hu2⟩:=nm (p.up-2 ^ i.toNat)
 have f9:A.bandn .i64 p.up (A.shl .i64 1 i)=u2:=by rw [hA,hu2];have:=hp.n3;exact zx2 hp.up (by omega) (by rw [←zc9 hi];exact hu)
 have f0:A.lt i 0=false:=by
  rw [hA];simp [std];omega
 have f1:A.le (A.len K.rl) i=false:=by
  rw [hA];rw [hrl];simp [std];omega
 have f2:A.le 0 i=true:=by
  rw [hA];simp [std];omega
 have th:TriP Tryz.prog 95 [.one (.ptr 0 0 0),.one (.val (.int .i64 i))] [.own 151 [.val (iv p.c.regions),.gsl 1 K.zl,.gsl 2 K.cl,.gsl 3 K.tl,.gsl 4 K.vl,.gsl 5 K.rl,.gsl 6 K.ol,.val (iv p.c.blast),.val (iv p.c.lease),.val (iv p.c.bake),.ptr 7 0 0,.val (iv p.up),.val (iv p.s.tick),.val (iv p.s.count),.gsl 8 S.tl,.gsl 9 S.cl,.val (iv p.s.proven),.val (iv p.s.evac),.val (iv p.s.low),.val (iv p.s.high)],.grow 75 1 K.zl K.zs,.grow 137 2 K.cl K.cs,.grow 143 7 K.tl K.ts,.grow 141 2 K.vl K.vs,.grow 3 1 K.rl K.rs,.grow 3 1 K.ol K.os,.obj OQ,.grow 134 12 S.tl S.ts,.grow 167 4 S.cl S.cs] (vB true):=by
  have:=zb3 p Wq hp i
  unfold plB PQ at this;rw [←hK,←hS,←hOQ,hu] at this;exact this
 have tC:TriX Tryz.prog 96 [.one (.ptr 0 0 0),.agg [.val (iv 7),.val (iv i),.val (iv 0),.val (iv 0),.val (iv 0),.val (iv 0),.val (iv 0),.val (iv 0),.val (iv 0),.val (iv 0),.val (iv 0),.val (iv 0)]] [.obj OQ] (vI 0) (fun W'=>[PQ (p.q.crash i) W']):=by
  rw [hOQ];exact zrf p.q i (by rw [hp.reps];exact hi) (by rw [hp.reps];have:=hp.n3;omega) 0 0 0 0 0 0 0 0 0 0 hC hcm Wq
 change Hid _ at hA hK hS hOQ hrl hu hu2;refine kN ?_
 repeat' (conv=>arg 3;try cbv);first
  | ((with_reducible refine kC ?_);(first|refine nP [.same 0,.same 1,.same 2,.same 3,.same 4,.same 5,.same 6,.same 7,.same 8,.same 9] th ?_|(refine kX [.same 7] tC (fun W3=>?_);unfold PQ;obtain ⟨OP,hOP⟩:=nm (packO (qB (p.q.crash i)) W3);rw [←hOP];replace hOP:=kH hOP;refine kN ?_)))
  | ((with_reducible refine kG ?_);rw [hOP.out,hK.out,hS.out,hu2.out];refine kK 0 [1,2,3,4,5,6,7,8,9] (m:=plB ({ p with up:=p.up-2 ^ i.toNat,q:=p.q.crash i })) W3 (fun W'=>?_);refine kO1 hR 1 ⟨rfl,W',rfl⟩)
  | simp only [*]
  | (split<;>(rename_i hsp;try simp only [FG] at hsp))
theorem zok (p:PlaneD) (hp:PlOk p) (i:Int) (hi:0≤i∧i<p.n) (hu:p.isUp i=true) (W:Nat→Prop):TriX Tryz.prog 44 [.one (.ptr 0 0 0),.one (.val (.int .i64 i))] ([PP p W]) (vI 4) (fun W'=>[PP p W']):=by
 obtain ⟨A,hA,FG⟩:=aF;change TriX _ _ _ [.obj (packO (plB p) W)] _ _;replace hA:=kH hA
 refine zad (D:=ords44) (fnO zp1 Tryz.func44) 29 (fun w0 own ps R hpl hR kE=>?_)
 refine zah 0 rfl rfl (fun x=>by simp [plB]) (fun Wq=>?_)
 change Eng.Good _ _ (Eng.St.mk _ _ [.own 151 [.val (iv p.c.regions),.gsl 1 p.c.L.zl,.gsl 2 p.c.L.cl,.gsl 3 p.c.L.tl,.gsl 4 p.c.L.vl,.gsl 5 p.c.L.rl,.gsl 6 p.c.L.ol,.val (iv p.c.blast),.val (iv p.c.lease),.val (iv p.c.bake),.ptr 7 0 0,.val (iv p.up),.val (iv p.s.tick),.val (iv p.s.count),.gsl 8 p.s.L.tl,.gsl 9 p.s.L.cl,.val (iv p.s.proven),.val (iv p.s.evac),.val (iv p.s.low),.val (iv p.s.high)],.grow 75 1 p.c.L.zl p.c.L.zs,.grow 137 2 p.c.L.cl p.c.L.cs,.grow 143 7 p.c.L.tl p.c.L.ts,.grow 141 2 p.c.L.vl p.c.L.vs,.grow 3 1 p.c.L.rl p.c.L.rs,.grow 3 1 p.c.L.ol p.c.L.os,PQ p.q Wq,.grow 134 12 p.s.L.tl p.s.L.ts,.grow 167 4 p.s.L.cl p.s.L.cs]);obtain ⟨K,hK⟩:=nm (p.c.L);obtain ⟨S,hS⟩:=nm (p.s.L);unfold PQ;obtain ⟨OQ,hOQ⟩:=nm (packO (qB p.q) Wq);rw [←hK,←hS,←hOQ]
 have hrl:K.rl=p.n:=by rw [hK];rfl
 replace hA:=hA.out
 have f0:A.lt i 0=false:=by
  rw [hA];simp [std];omega
 have f1:A.le (A.len K.rl) i=false:=by
  rw [hA];rw [hrl];simp [std];omega
 have f2:A.le 0 i=true:=by
  rw [hA];simp [std];omega
 have th:TriP Tryz.prog 95 [.one (.ptr 0 0 0),.one (.val (.int .i64 i))] [.own 151 [.val (iv p.c.regions),.gsl 1 K.zl,.gsl 2 K.cl,.gsl 3 K.tl,.gsl 4 K.vl,.gsl 5 K.rl,.gsl 6 K.ol,.val (iv p.c.blast),.val (iv p.c.lease),.val (iv p.c.bake),.ptr 7 0 0,.val (iv p.up),.val (iv p.s.tick),.val (iv p.s.count),.gsl 8 S.tl,.gsl 9 S.cl,.val (iv p.s.proven),.val (iv p.s.evac),.val (iv p.s.low),.val (iv p.s.high)],.grow 75 1 K.zl K.zs,.grow 137 2 K.cl K.cs,.grow 143 7 K.tl K.ts,.grow 141 2 K.vl K.vs,.grow 3 1 K.rl K.rs,.grow 3 1 K.ol K.os,.obj OQ,.grow 134 12 S.tl S.ts,.grow 167 4 S.cl S.cs] (vB true):=by
  have:=zb3 p Wq hp i
  unfold plB PQ at this;rw [←hK,←hS,←hOQ,hu] at this;exact this
 change Hid _ at hA hK hS hOQ hrl hu;refine kN ?_
 repeat' (conv=>arg 3;try cbv);first
  | ((with_reducible refine kC ?_);refine nP [.same 0,.same 1,.same 2,.same 3,.same 4,.same 5,.same 6,.same 7,.same 8,.same 9] th ?_)
  | ((with_reducible refine kG ?_);rw [hOQ.out,hK.out,hS.out];refine kK 0 [1,2,3,4,5,6,7,8,9] (m:=plB (p)) Wq (fun W'=>?_);refine kO1 hR 1 ⟨rfl,W',rfl⟩)
  | simp only [*]
  | (split<;>(rename_i hsp;try simp only [FG] at hsp))
theorem zoj (p:PlaneD) (hp:PlOk p) (i:Int) (hi:0≤i∧i<p.n) (hu:p.isUp i=false) (W:Nat→Prop):TriX Tryz.prog 44 [.one (.ptr 0 0 0),.one (.val (.int .i64 i))] ([PP p W]) (vI 0) (fun W'=>[PP { p with up:=p.up+2 ^ i.toNat } W']):=by
 obtain ⟨A,hA,FG⟩:=aF;change TriX _ _ _ [.obj (packO (plB p) W)] _ _;replace hA:=kH hA
 refine zad (D:=ords44) (fnO zp1 Tryz.func44) 29 (fun w0 own ps R hpl hR kE=>?_)
 refine zah 0 rfl rfl (fun x=>by simp [plB]) (fun Wq=>?_)
 change Eng.Good _ _ (Eng.St.mk _ _ [.own 151 [.val (iv p.c.regions),.gsl 1 p.c.L.zl,.gsl 2 p.c.L.cl,.gsl 3 p.c.L.tl,.gsl 4 p.c.L.vl,.gsl 5 p.c.L.rl,.gsl 6 p.c.L.ol,.val (iv p.c.blast),.val (iv p.c.lease),.val (iv p.c.bake),.ptr 7 0 0,.val (iv p.up),.val (iv p.s.tick),.val (iv p.s.count),.gsl 8 p.s.L.tl,.gsl 9 p.s.L.cl,.val (iv p.s.proven),.val (iv p.s.evac),.val (iv p.s.low),.val (iv p.s.high)],.grow 75 1 p.c.L.zl p.c.L.zs,.grow 137 2 p.c.L.cl p.c.L.cs,.grow 143 7 p.c.L.tl p.c.L.ts,.grow 141 2 p.c.L.vl p.c.L.vs,.grow 3 1 p.c.L.rl p.c.L.rs,.grow 3 1 p.c.L.ol p.c.L.os,PQ p.q Wq,.grow 134 12 p.s.L.tl p.s.L.ts,.grow 167 4 p.s.L.cl p.s.L.cs]);obtain ⟨K,hK⟩:=nm (p.c.L);obtain ⟨S,hS⟩:=nm (p.s.L);unfold PQ;obtain ⟨OQ,hOQ⟩:=nm (packO (qB p.q) Wq);rw [←hK,←hS,←hOQ]
 have hrl:K.rl=p.n:=by rw [hK];rfl
 replace hA:=hA.out;obtain ⟨u2,hu2⟩:=nm (p.up+2 ^ i.toNat)
 have f9:A.bor .i64 p.up (A.shl .i64 1 i)=u2:=by rw [hA,hu2];have:=hp.n3;exact zx1 hp.up (by omega) (by rw [←zc9 hi];exact hu)
 have f0:A.lt i 0=false:=by
  rw [hA];simp [std];omega
 have f1:A.le (A.len K.rl) i=false:=by
  rw [hA];rw [hrl];simp [std];omega
 have f2:A.le 0 i=true:=by
  rw [hA];simp [std];omega
 have th:TriP Tryz.prog 95 [.one (.ptr 0 0 0),.one (.val (.int .i64 i))] [.own 151 [.val (iv p.c.regions),.gsl 1 K.zl,.gsl 2 K.cl,.gsl 3 K.tl,.gsl 4 K.vl,.gsl 5 K.rl,.gsl 6 K.ol,.val (iv p.c.blast),.val (iv p.c.lease),.val (iv p.c.bake),.ptr 7 0 0,.val (iv p.up),.val (iv p.s.tick),.val (iv p.s.count),.gsl 8 S.tl,.gsl 9 S.cl,.val (iv p.s.proven),.val (iv p.s.evac),.val (iv p.s.low),.val (iv p.s.high)],.grow 75 1 K.zl K.zs,.grow 137 2 K.cl K.cs,.grow 143 7 K.tl K.ts,.grow 141 2 K.vl K.vs,.grow 3 1 K.rl K.rs,.grow 3 1 K.ol K.os,.obj OQ,.grow 134 12 S.tl S.ts,.grow 167 4 S.cl S.cs] (vB false):=by
  have:=zb3 p Wq hp i
  unfold plB PQ at this;rw [←hK,←hS,←hOQ,hu] at this;exact this
 change Hid _ at hA hK hS hOQ hrl hu hu2;refine kN ?_
 repeat' (conv=>arg 3;try cbv);first
  | ((with_reducible refine kC ?_);refine nP [.same 0,.same 1,.same 2,.same 3,.same 4,.same 5,.same 6,.same 7,.same 8,.same 9] th ?_)
  | ((with_reducible refine kG ?_);rw [hOQ.out,hK.out,hS.out,hu2.out];refine kK 0 [1,2,3,4,5,6,7,8,9] (m:=plB ({ p with up:=p.up+2 ^ i.toNat })) Wq (fun W'=>?_);refine kO1 hR 1 ⟨rfl,W',rfl⟩)
  | simp only [*]
  | (split<;>(rename_i hsp;try simp only [FG] at hsp))
def bestTo (p:PlaneD):Nat→Int × Int × Int
 | 0=>(-1,-1,-1)
 | i+1=>if p.isUp (i:Int)=false then bestTo p i else if (bestTo p i).2.1<(p.q.rep (i:Int)).lastTerm∨(p.q.rep (i:Int)).lastTerm=(bestTo p i).2.1∧(bestTo p i).2.2<(p.q.rep (i:Int)).len then ((i:Int),(p.q.rep (i:Int)).lastTerm,(p.q.rep (i:Int)).len) else bestTo p i
theorem zrx (n i:Nat) (h:i<n):(List.range n).drop i=i::(List.range n).drop (i+1):=by
 rw [List.drop_eq_getElem_cons (by simpa using h)]
 simp
theorem qcs (p:PlaneD):p.best=(bestTo p p.n).1:=by
 have key:∀ (m i:Nat),i+m=p.n→p.bestGo ((List.range p.n).drop i) (bestTo p i).1 (bestTo p i).2.1 (bestTo p i).2.2=(bestTo p p.n).1:=by
  intro m
  induction m with
  | zero =>
    intro i h
    rw [List.drop_eq_nil_of_le (by simp;omega),PlaneD.bestGo,show i=p.n by omega]
  | succ m ih =>
    intro i h
    rw [zrx _ _ (by omega),PlaneD.bestGo]
    have:=ih (i+1) (by omega)
    rw [←this,bestTo]
    split
    ·rfl
    ·dsimp only
     split<;>rfl
 exact key p.n 0 (by omega)
theorem zzl {n a b c d:Nat} {u v w x:Value} {y:Nat × SV} (h:y∈[(a,SV.one (.val u)),(b,SV.one (.val v)),(c,SV.one (.val w)),(d,SV.one (.val x))]):y.2.ok n:=by
 simp at h
 rcases h with rfl|rfl|rfl|rfl<;>trivial
theorem zoo (p:PlaneD) (W:Nat→Prop) (hp:PlOk p) (hl:∀ i:Nat,i<p.n→(p.q.rep (i:Int)).j.log.length≤4096):TriP Tryz.prog 197 [.one (.ptr 0 0 0)] (plB p W) (vI p.best):=by
 obtain ⟨A,hA,FG⟩:=aF;unfold plB PQ;obtain ⟨K,hK⟩:=nm (p.c.L);obtain ⟨S,hS⟩:=nm (p.s.L);obtain ⟨OQ,hOQ⟩:=nm (packO (qB p.q) W);rw [←hK,←hS,←hOQ]
 have hrl:K.rl=p.n:=by rw [hK];rfl
 obtain ⟨n,hn⟩:=nm (p.n)
 have hkn:K.rl=n:=by rw [hrl,hn]
 have hn3:n≤3:=by rw [hn];exact hp.n3
 have l1:∀ i:Nat,A.lt (Int.ofNat i) (A.len K.rl)=true→A.inb (Int.ofNat i) K.rl=true:=by rw [hA];intro i;simp [std]
 have l2:∀ i:Nat,A.lt (Int.ofNat i) (A.len K.rl)=true→A.add .i64 (Int.ofNat i) 1=Int.ofNat (i+1):=by rw [hA];intro i h;have hb:=(show K.rl≤1000000 by omega);exact za3 (by simpa [std] using h) hb
 have l3:∀ i:Nat,A.lt (Int.ofNat i) (A.len K.rl)=true→i<K.rl:=by rw [hA];intro i;simp [std]
 have l4:∀ i:Nat,A.lt (Int.ofNat i) (A.len K.rl)=false→K.rl≤i:=by rw [hA];intro i;simp [std]
 obtain ⟨BT,hBT⟩:=nm (fun i:Nat=>(bestTo p i).1)
 obtain ⟨TT,hTT⟩:=nm (fun i:Nat=>(bestTo p i).2.1)
 obtain ⟨LT,hLT⟩:=nm (fun i:Nat=>(bestTo p i).2.2)
 obtain ⟨ub,hub⟩:=nm (fun i:Nat=>p.isUp (i:Int))
 obtain ⟨ln,hln⟩:=nm (fun i:Nat=>(p.q.rep (i:Int)).j.log.length)
 obtain ⟨LV,hLV⟩:=nm (fun i:Nat=>logV (p.q.rep (i:Int)).j.log)
 obtain ⟨te,hte⟩:=nm (fun i:Nat=>(p.q.rep (i:Int)).lastTerm)
 obtain ⟨lx,hlx⟩:=nm (fun i:Nat=>((p.q.rep (i:Int)).j.log.length:Int)-1)
 have hr:∀ i:Nat,A.lt (Int.ofNat i) (A.len K.rl)=true→i<p.n:=by intro i hi;have:=l3 i hi;omega
 have t1:∀ i:Nat,TriP Tryz.prog 95 [.one (.ptr 0 0 0),.one (.val (.int .i64 (Int.ofNat i)))] [.own 151 [.val (iv p.c.regions),.gsl 1 K.zl,.gsl 2 K.cl,.gsl 3 K.tl,.gsl 4 K.vl,.gsl 5 K.rl,.gsl 6 K.ol,.val (iv p.c.blast),.val (iv p.c.lease),.val (iv p.c.bake),.ptr 7 0 0,.val (iv p.up),.val (iv p.s.tick),.val (iv p.s.count),.gsl 8 S.tl,.gsl 9 S.cl,.val (iv p.s.proven),.val (iv p.s.evac),.val (iv p.s.low),.val (iv p.s.high)],.grow 75 1 K.zl K.zs,.grow 137 2 K.cl K.cs,.grow 143 7 K.tl K.ts,.grow 141 2 K.vl K.vs,.grow 3 1 K.rl K.rs,.grow 3 1 K.ol K.os,.obj OQ,.grow 134 12 S.tl S.ts,.grow 167 4 S.cl S.cs] (vB (ub i)):=by
  intro i;rw [hub,hOQ,hK,hS];exact zb3 p W hp (Int.ofNat i)
 have t2:∀ i:Nat,A.lt (Int.ofNat i) (A.len K.rl)=true→TriM Tryz.prog 270 [.one (.ptr 0 0 0),.one (.val (.int .i64 (Int.ofNat i)))] [.obj OQ] (.one (.gsl 1 (ln i))) [.obj OQ,.grow 270 10 (ln i) (LV i)]:=by
  intro i hi;have h9:=hr i hi;rw [hOQ,hln,hLV];exact zyb p.q (i:Int) (by rw [hp.reps];omega) (hl i h9) W
 have g0:BT 0=-1∧TT 0=-1∧LT 0=-1:=by rw [hBT,hTT,hLT];exact ⟨rfl,rfl,rfl⟩
 have u1:∀ i:Nat,A.lt (Int.ofNat i) (A.len K.rl)=true→A.lt 0 (A.len (ln i))=true→A.sub .i64 (A.len (ln i)) 1=lx i∧A.inb (lx i) (ln i)=true∧A.get (LV i) (A.idx 0 (lx i) 10) 0=some (.int .i64 (te i)):=by
  intro i hi h2;have h9:=hr i hi;have h8:=hl i h9
  rw [hA,hln] at h2;have h7:0<(p.q.rep (i:Int)).j.log.length:=by simpa [std] using h2
  rw [hA,hln,hlx,hLV,hte];dsimp only
  refine ⟨(show IntKind.wrap .i64 (((p.q.rep (i:Int)).j.log.length:Int)-1)=_ from wrap64 (by omega) (by omega)),by simp [std];omega,?_⟩
  have:=rowF entV 10 (fun _=>rfl) (p.q.rep (i:Int)).j.log (0,EnD.of []) 0 (by omega) (((p.q.rep (i:Int)).j.log.length:Int)-1) (by simp [std];omega)
  refine Eq.trans this ?_;unfold RepD.lastTerm RepD.len JSt.termAt
  rw [if_pos (by omega)]
  rfl
 have u2:∀ i:Nat,A.lt (Int.ofNat i) (A.len K.rl)=true→A.lt 0 (A.len (ln i))=false→te i=0:=by
  intro i hi h2;rw [hA,hln] at h2;have h7:(p.q.rep (i:Int)).j.log.length=0:=by simpa [std] using h2
  rw [hte];dsimp only;unfold RepD.lastTerm RepD.len JSt.termAt;rw [if_neg (by omega)]
 have s1:∀ i:Nat,ub i=false→BT (i+1)=BT i∧TT (i+1)=TT i∧LT (i+1)=LT i:=by
  rw [hub,hBT,hTT,hLT];intro i h;dsimp only;rw [bestTo,if_pos h];exact ⟨rfl,rfl,rfl⟩
 have s2:∀ i:Nat,ub i=true→A.lt (TT i) (te i)=true→BT (i+1)=Int.ofNat i∧TT (i+1)=te i∧LT (i+1)=A.len (ln i):=by
  rw [hub,hBT,hTT,hLT,hte,hln,hA];intro i h h2;dsimp only at h h2 ⊢;have h3:=of_decide_eq_true h2;rw [bestTo,if_neg (by rw [h];simp),if_pos (.inl h3)];exact ⟨rfl,rfl,rfl⟩
 have s3:∀ i:Nat,ub i=true→A.lt (TT i) (te i)=false→A.eq (te i) (TT i)=true→A.lt (LT i) (A.len (ln i))=true→BT (i+1)=Int.ofNat i∧TT (i+1)=te i∧LT (i+1)=A.len (ln i):=by
  rw [hub,hBT,hTT,hLT,hte,hln,hA];intro i h h2 h3 h4;dsimp only at h h2 h3 h4 ⊢;have h5:=of_decide_eq_true h3;have h6:=of_decide_eq_true h4;rw [bestTo,if_neg (by rw [h];simp),if_pos (.inr ⟨h5,h6⟩)];exact ⟨rfl,rfl,rfl⟩
 have s4:∀ i:Nat,ub i=true→A.lt (TT i) (te i)=false→A.eq (te i) (TT i)=true→A.lt (LT i) (A.len (ln i))=false→BT (i+1)=BT i∧TT (i+1)=TT i∧LT (i+1)=LT i:=by
  rw [hub,hBT,hTT,hLT,hte,hln,hA];intro i h h2 h3 h4;dsimp only at h h2 h3 h4 ⊢;have h5:=of_decide_eq_false h2;have h6:=of_decide_eq_false h4;rw [bestTo,if_neg (by rw [h];simp),if_neg (fun h7=>h7.elim h5 (fun h8=>h6 h8.2))];exact ⟨rfl,rfl,rfl⟩
 have s5:∀ i:Nat,ub i=true→A.lt (TT i) (te i)=false→A.eq (te i) (TT i)=false→BT (i+1)=BT i∧TT (i+1)=TT i∧LT (i+1)=LT i:=by
  rw [hub,hBT,hTT,hLT,hte,hA];intro i h h2 h3;dsimp only at h h2 h3 ⊢;have h5:=of_decide_eq_false h2;have h6:=of_decide_eq_false h3;rw [bestTo,if_neg (by rw [h];simp),if_neg (fun h7=>h7.elim h5 (fun h8=>h6 h8.1))];exact ⟨rfl,rfl,rfl⟩
 have s2z:∀ i:Nat,A.lt (Int.ofNat i) (A.len K.rl)=true→A.lt 0 (A.len (ln i))=false→ub i=true→A.lt (TT i) 0=true→BT (i+1)=Int.ofNat i∧TT (i+1)=0∧LT (i+1)=A.len (ln i):=by
  intro i hi h0 h h2;have:=s2 i h (by rw [u2 i hi h0];exact h2);rwa [u2 i hi h0] at this
 have s3z:∀ i:Nat,A.lt (Int.ofNat i) (A.len K.rl)=true→A.lt 0 (A.len (ln i))=false→ub i=true→A.lt (TT i) 0=false→A.eq 0 (TT i)=true→A.lt (LT i) (A.len (ln i))=true→BT (i+1)=Int.ofNat i∧TT (i+1)=0∧LT (i+1)=A.len (ln i):=by
  intro i hi h0 h h2 h3 h4;have:=s3 i h (by rw [u2 i hi h0];exact h2) (by rw [u2 i hi h0];exact h3) h4;rwa [u2 i hi h0] at this
 have s4z:∀ i:Nat,A.lt (Int.ofNat i) (A.len K.rl)=true→A.lt 0 (A.len (ln i))=false→ub i=true→A.lt (TT i) 0=false→A.eq 0 (TT i)=true→A.lt (LT i) (A.len (ln i))=false→BT (i+1)=BT i∧TT (i+1)=TT i∧LT (i+1)=LT i:=by
  intro i hi h0 h h2 h3 h4;exact s4 i h (by rw [u2 i hi h0];exact h2) (by rw [u2 i hi h0];exact h3) h4
 have s5z:∀ i:Nat,A.lt (Int.ofNat i) (A.len K.rl)=true→A.lt 0 (A.len (ln i))=false→ub i=true→A.lt (TT i) 0=false→A.eq 0 (TT i)=false→BT (i+1)=BT i∧TT (i+1)=TT i∧LT (i+1)=LT i:=by
  intro i hi h0 h h2 h3;exact s5 i h (by rw [u2 i hi h0];exact h2) (by rw [u2 i hi h0];exact h3)
 rw [qcs]
 have hB:(bestTo p p.n).1=BT K.rl:=by rw [hBT,hrl]
 rw [hB];clear hrl hkn;change Hid _ at hA hK hS hOQ hn hBT hTT hLT hub hln hLV hte hlx
 refine zad (D:=ords197) (fnO zu6 Tryz.func197) 57 (fun w0 own ps R hpl hR kE=>?_)
 refine kN ?_
 repeat' (conv=>arg 3;try cbv);first
  | ((with_reducible refine kC ?_);(first|refine nP [.same 0,.same 1,.same 2,.same 3,.same 4,.same 5,.same 6,.same 7,.same 8,.same 9] (t1 i) ?_|refine nM [.same 7] (t2 i (by assumption)) ?_))
  | (((with_reducible refine kL ?_);refine zau 0 (α:={ i:Nat // i≤K.rl }) [6,7,8,16,17,18,19,20,21,22,23,24,25,26,27,28,29,30,31,32,33,34,35,36,37,38,39,40,41,42,43,44,45,46,47,48,49,50,51,52,53,54,55,56] (fun x=>[(15,.one (.val (.int .i64 (Int.ofNat x.1)))),(3,.one (.val (.int .i64 (BT x.1)))),(4,.one (.val (.int .i64 (TT x.1)))),(5,.one (.val (.int .i64 (LT x.1))))]) (fun x=>K.rl-x.1) ⟨0,Nat.zero_le _⟩ (by dsimp only;simp only [g0.1,g0.2.1,g0.2.2]<;>cbv<;>try simp) (fun x y hy=>zzl hy) rfl (fun x L' hok hL1 hL2=>?_);obtain ⟨i,hi⟩:=x;dsimp only;refine kN ?_))
  | (((with_reducible refine kA ?_);have hlt:=l3 i (by assumption);have hstep:=l2 i (by assumption);(first|have hB2:=s1 i (by assumption)|have hB2:=s2z i (by assumption) (by assumption) (by assumption) (by assumption)|have hB2:=s3z i (by assumption) (by assumption) (by assumption) (by assumption) (by assumption) (by assumption)|have hB2:=s4z i (by assumption) (by assumption) (by assumption) (by assumption) (by assumption) (by assumption)|have hB2:=s5z i (by assumption) (by assumption) (by assumption) (by assumption) (by assumption)|have hB2:=s2 i (by assumption) (by assumption)|have hB2:=s3 i (by assumption) (by assumption) (by assumption) (by assumption)|have hB2:=s4 i (by assumption) (by assumption) (by assumption) (by assumption)|have hB2:=s5 i (by assumption) (by assumption) (by assumption));refine zao ⟨rfl,rfl,rfl⟩ hok hL2 ⟨i+1,hlt⟩ (show K.rl-(i+1)<K.rl-i by omega) (by dsimp only;(try simp only [hstep,hB2.1,hB2.2.1,hB2.2.2]);cbv;simp) rfl))
  | ((with_reducible refine kG ?_);have hiN:i=K.rl:=Nat.le_antisymm hi (l4 i (by assumption));subst hiN;refine kO1 hR 10 ⟨rfl,rfl⟩)
  | simp only [*]
  | (split<;>(rename_i hsp;try simp only [FG] at hsp))
end Go.Proofs.YtpigpajgjdcagaaGreat
