/- Parts. -/
import Derived.Test.YtpigpajgjdcagaaGreatUl3
import Derived.Test.YtpigpajgjdcagaaGreatUq4
import Derived.Test.YtpigpajgjdcagaaGreatUf
set_option linter.unusedSimpArgs false
set_option linter.unusedVariables false
set_option maxRecDepth 100000
set_option maxHeartbeats 60000000
namespace Go.Proofs.YtpigpajgjdcagaaGreat
open Go.RowKit Eng
theorem znh:Goes Tryz.prog 49:=zbe Tryz.func49 (by kernel_rfl) (by kernel_rfl)
theorem zon (p:PlaneD) (W:Nat→Prop) (hd:p.q.done.length≤4096):TriM Tryz.prog 49 [.one (.ptr 0 0 0)] (plB p W) (.one (.gsl 10 p.q.done.length)) (plB p W++[.grow 45 9 p.q.done.length (enVs p.q.done)]):=by
 obtain ⟨A,hA,FG⟩:=aF
 have td:=zs7 p.q hd W
 unfold plB PQ;unfold PQ at td;obtain ⟨K,hK⟩:=nm (p.c.L);obtain ⟨S,hS⟩:=nm (p.s.L);obtain ⟨OQ,hOQ⟩:=nm (packO (qB p.q) W);obtain ⟨nd,hnd⟩:=nm (p.q.done.length);obtain ⟨DV,hDV⟩:=nm (enVs p.q.done);rw [←hOQ,←hnd,←hDV] at td;rw [←hK,←hS,←hOQ,←hnd,←hDV];change Hid _ at hA hK hS hOQ hnd hDV
 refine zad (D:=ords49) (fnO zp0 Tryz.func49) 7 (fun w0 own ps R hpl hR kE=>?_)
 refine kN ?_
 repeat' (conv=>arg 3;try cbv);first
  | ((with_reducible refine kC ?_);refine nM [.same 7] td ?_)
  | ((with_reducible refine kG ?_);refine zhd hR ⟨zp0,zaa⟩ 11 (by rfl) (by rfl) (by rfl) (by rfl) (Nat.le_succ 10) (by rfl) ⟨rfl,rfl⟩)
  | simp only [*]
  | (split<;>(rename_i hsp;try simp only [FG] at hsp))
theorem zgj (p:PlaneD) (hd:p.q.done.length≤4096) (W:Nat→Prop):TriM Tryz.prog 49 [.one (.ptr 0 0 0)] [PP p W] (.one (.gsl 1 p.q.done.length)) [PP p W,.grow 45 9 p.q.done.length (enVs p.q.done)] :=
 zfh znh (fun _=>by simp [plB]) rfl fun Wq=>zon p Wq hd
def ApOk (c:CfgD) (s:StD) (e:EnD) (s':StD):Prop:=TriM Tryz.prog 18 [cfgS c.L c,stS 6 s.L s,enS e] (cfgM c.L++stM s.L) (.tup [.agg [.val (iv s'.tick),.val (iv s'.count),.gsl 8 s'.L.tl,.gsl 9 s'.L.cl,.val (iv s'.proven),.val (iv s'.evac),.val (iv s'.low),.val (iv s'.high)],.one (.val (iv 0))]) (cfgM c.L++stM s.L++[.grow 134 12 s'.L.tl s'.L.ts,.grow 167 4 s'.L.cl s'.L.cs])
def ApNo (c:CfgD) (s:StD) (e:EnD) (err:Int):Prop:=TriP Tryz.prog 18 [cfgS c.L c,stS 6 s.L s,enS e] (cfgM c.L++stM s.L) (.tup [.agg [.val (iv 0),.val (iv 0),.val (.slice none 0 0),.val (.slice none 0 0),.val (iv 0),.val (iv 0),.val (iv 0),.val (iv 0)],.one (.val (iv err))])
theorem zhx (p:PlaneD) (hp:PlOk p) (e:EnD) (hr:p.ready=false) (W:Nat→Prop):TriX Tryz.prog 47 [.one (.ptr 0 0 0),enS e] ([PP p W]) (.tup [.one (.val (iv 0)),.one (.val (iv 16))]) (fun W'=>[PP p W']):=by
 obtain ⟨A,hA,FG⟩:=aF;change TriX _ _ _ [.obj (packO (plB p) W)] _ _;replace hA:=kH hA
 refine zad (D:=ords47) (fnO zc1 Tryz.func47) 40 (fun w0 own ps R hpl hR kE=>?_)
 unfold enS
 refine zah 0 rfl rfl (fun x=>by simp [plB]) (fun Wq=>?_)
 change Eng.Good _ _ (Eng.St.mk _ _ [.own 151 [.val (iv p.c.regions),.gsl 1 p.c.L.zl,.gsl 2 p.c.L.cl,.gsl 3 p.c.L.tl,.gsl 4 p.c.L.vl,.gsl 5 p.c.L.rl,.gsl 6 p.c.L.ol,.val (iv p.c.blast),.val (iv p.c.lease),.val (iv p.c.bake),.ptr 7 0 0,.val (iv p.up),.val (iv p.s.tick),.val (iv p.s.count),.gsl 8 p.s.L.tl,.gsl 9 p.s.L.cl,.val (iv p.s.proven),.val (iv p.s.evac),.val (iv p.s.low),.val (iv p.s.high)],.grow 75 1 p.c.L.zl p.c.L.zs,.grow 137 2 p.c.L.cl p.c.L.cs,.grow 143 7 p.c.L.tl p.c.L.ts,.grow 141 2 p.c.L.vl p.c.L.vs,.grow 3 1 p.c.L.rl p.c.L.rs,.grow 3 1 p.c.L.ol p.c.L.os,PQ p.q Wq,.grow 134 12 p.s.L.tl p.s.L.ts,.grow 167 4 p.s.L.cl p.s.L.cs]);obtain ⟨K,hK⟩:=nm (p.c.L);obtain ⟨S,hS⟩:=nm (p.s.L);unfold PQ;obtain ⟨OQ,hOQ⟩:=nm (packO (qB p.q) Wq);rw [←hK,←hS,←hOQ];obtain ⟨e0,he0⟩:=nm (e.kind);rw [←he0];obtain ⟨e1,he1⟩:=nm (e.tick);rw [←he1];obtain ⟨e2,he2⟩:=nm (e.tenant);rw [←he2];obtain ⟨e3,he3⟩:=nm (e.cell);rw [←he3];obtain ⟨e4,he4⟩:=nm (e.other);rw [←he4];obtain ⟨e5,he5⟩:=nm (e.epoch);rw [←he5];obtain ⟨e6,he6⟩:=nm (e.lo);rw [←he6];obtain ⟨e7,he7⟩:=nm (e.hi);rw [←he7];obtain ⟨e8,he8⟩:=nm (e.n);rw [←he8]
 have tr:TriP Tryz.prog 51 [.one (.ptr 0 0 0)] [.own 151 [.val (iv p.c.regions),.gsl 1 K.zl,.gsl 2 K.cl,.gsl 3 K.tl,.gsl 4 K.vl,.gsl 5 K.rl,.gsl 6 K.ol,.val (iv p.c.blast),.val (iv p.c.lease),.val (iv p.c.bake),.ptr 7 0 0,.val (iv p.up),.val (iv p.s.tick),.val (iv p.s.count),.gsl 8 S.tl,.gsl 9 S.cl,.val (iv p.s.proven),.val (iv p.s.evac),.val (iv p.s.low),.val (iv p.s.high)],.grow 75 1 K.zl K.zs,.grow 137 2 K.cl K.cs,.grow 143 7 K.tl K.ts,.grow 141 2 K.vl K.vs,.grow 3 1 K.rl K.rs,.grow 3 1 K.ol K.os,.obj OQ,.grow 134 12 S.tl S.ts,.grow 167 4 S.cl S.cs] (vB false):=by
  have:=zcy p Wq hp
  unfold plB PQ at this;rw [←hK,←hS,←hOQ,hr] at this;exact this
 change Hid _ at hK hS hOQ hr he0 he1 he2 he3 he4 he5 he6 he7 he8;refine kN ?_
 repeat' (conv=>arg 3;try cbv);first
  | ((with_reducible refine kC ?_);refine nP [.same 0,.same 1,.same 2,.same 3,.same 4,.same 5,.same 6,.same 7,.same 8,.same 9] tr ?_)
  | ((with_reducible refine kG ?_);rw [hOQ.out,hK.out,hS.out];refine kK 0 [1,2,3,4,5,6,7,8,9] (m:=plB (p)) Wq (fun W'=>?_);refine zdk hR ⟨zc1,zaa⟩ 1 (by rfl) (by rfl) (by rfl) (by rfl) (by rfl) (by rfl) (by rfl) (Nat.le_refl 1) (by rfl) ⟨rfl,W',rfl⟩)
  | simp only [*]
  | (split<;>(rename_i hsp;try simp only [FG] at hsp))
theorem zoh (p:PlaneD) (hp:PlOk p) (e:EnD) (hr:p.ready=true) (err:Int) (herr:err≠0) (hA0:ApNo p.c p.s e err) (W:Nat→Prop):TriX Tryz.prog 47 [.one (.ptr 0 0 0),enS e] ([PP p W]) (.tup [.one (.val (iv 0)),.one (.val (iv err))]) (fun W'=>[PP p W']):=by
 obtain ⟨A,hA,FG⟩:=aF;change TriX _ _ _ [.obj (packO (plB p) W)] _ _;replace hA:=kH hA
 refine zad (D:=ords47) (fnO zc1 Tryz.func47) 40 (fun w0 own ps R hpl hR kE=>?_)
 unfold enS
 refine zah 0 rfl rfl (fun x=>by simp [plB]) (fun Wq=>?_)
 change Eng.Good _ _ (Eng.St.mk _ _ [.own 151 [.val (iv p.c.regions),.gsl 1 p.c.L.zl,.gsl 2 p.c.L.cl,.gsl 3 p.c.L.tl,.gsl 4 p.c.L.vl,.gsl 5 p.c.L.rl,.gsl 6 p.c.L.ol,.val (iv p.c.blast),.val (iv p.c.lease),.val (iv p.c.bake),.ptr 7 0 0,.val (iv p.up),.val (iv p.s.tick),.val (iv p.s.count),.gsl 8 p.s.L.tl,.gsl 9 p.s.L.cl,.val (iv p.s.proven),.val (iv p.s.evac),.val (iv p.s.low),.val (iv p.s.high)],.grow 75 1 p.c.L.zl p.c.L.zs,.grow 137 2 p.c.L.cl p.c.L.cs,.grow 143 7 p.c.L.tl p.c.L.ts,.grow 141 2 p.c.L.vl p.c.L.vs,.grow 3 1 p.c.L.rl p.c.L.rs,.grow 3 1 p.c.L.ol p.c.L.os,PQ p.q Wq,.grow 134 12 p.s.L.tl p.s.L.ts,.grow 167 4 p.s.L.cl p.s.L.cs]);obtain ⟨K,hK⟩:=nm (p.c.L);obtain ⟨S,hS⟩:=nm (p.s.L);unfold PQ;obtain ⟨OQ,hOQ⟩:=nm (packO (qB p.q) Wq);rw [←hK,←hS,←hOQ];obtain ⟨e0,he0⟩:=nm (e.kind);rw [←he0];obtain ⟨e1,he1⟩:=nm (e.tick);rw [←he1];obtain ⟨e2,he2⟩:=nm (e.tenant);rw [←he2];obtain ⟨e3,he3⟩:=nm (e.cell);rw [←he3];obtain ⟨e4,he4⟩:=nm (e.other);rw [←he4];obtain ⟨e5,he5⟩:=nm (e.epoch);rw [←he5];obtain ⟨e6,he6⟩:=nm (e.lo);rw [←he6];obtain ⟨e7,he7⟩:=nm (e.hi);rw [←he7];obtain ⟨e8,he8⟩:=nm (e.n);rw [←he8]
 have tr:TriP Tryz.prog 51 [.one (.ptr 0 0 0)] [.own 151 [.val (iv p.c.regions),.gsl 1 K.zl,.gsl 2 K.cl,.gsl 3 K.tl,.gsl 4 K.vl,.gsl 5 K.rl,.gsl 6 K.ol,.val (iv p.c.blast),.val (iv p.c.lease),.val (iv p.c.bake),.ptr 7 0 0,.val (iv p.up),.val (iv p.s.tick),.val (iv p.s.count),.gsl 8 S.tl,.gsl 9 S.cl,.val (iv p.s.proven),.val (iv p.s.evac),.val (iv p.s.low),.val (iv p.s.high)],.grow 75 1 K.zl K.zs,.grow 137 2 K.cl K.cs,.grow 143 7 K.tl K.ts,.grow 141 2 K.vl K.vs,.grow 3 1 K.rl K.rs,.grow 3 1 K.ol K.os,.obj OQ,.grow 134 12 S.tl S.ts,.grow 167 4 S.cl S.cs] (vB true):=by
  have:=zcy p Wq hp
  unfold plB PQ at this;rw [←hK,←hS,←hOQ,hr] at this;exact this
 have ta:TriP Tryz.prog 18 [cfgS K p.c,stS 6 S p.s,.agg [.val (iv e0),.val (iv e1),.val (iv e2),.val (iv e3),.val (iv e4),.val (iv e5),.val (iv e6),.val (iv e7),.val (iv e8)]] (cfgM K++stM S) (.tup [.agg [.val (iv 0),.val (iv 0),.val (.slice none 0 0),.val (.slice none 0 0),.val (iv 0),.val (iv 0),.val (iv 0),.val (iv 0)],.one (.val (iv err))]):=by rw [hK,hS,he0,he1,he2,he3,he4,he5,he6,he7,he8];exact hA0
 have f0:A.eq err 0=false:=by rw [hA.out];simp [std];exact herr
 change Hid _ at hK hS hOQ hr he0 he1 he2 he3 he4 he5 he6 he7 he8;refine kN ?_
 repeat' (conv=>arg 3;try cbv);first
  | ((with_reducible refine kC ?_);(first|refine nP [.same 0,.same 1,.same 2,.same 3,.same 4,.same 5,.same 6,.same 7,.same 8,.same 9] tr ?_|refine nP [.rd (.gsl 1 K.zl),.rd (.gsl 2 K.cl),.rd (.gsl 3 K.tl),.rd (.gsl 4 K.vl),.rd (.gsl 5 K.rl),.rd (.gsl 6 K.ol),.rd (.gsl 8 S.tl),.rd (.gsl 9 S.cl)] ta ?_))
  | (((with_reducible show Eng.Good _ _ (Eng.St.mk (Eng.It.head _ _ _ _ _ _ _::_) _ _));refine zb8 ⟨zc1,zaa⟩ 9 13 rfl rfl rfl rfl rfl rfl rfl (by rfl) rfl rfl rfl (by rfl) rfl ?_ ?_<;>(refine kN ?_;conv=>arg 3;cbv)))
  | ((with_reducible refine kG ?_);rw [hOQ.out,hK.out,hS.out];refine kK 0 [1,2,3,4,5,6,7,8,9] (m:=plB (p)) Wq (fun W'=>?_);refine zdk hR ⟨zc1,zaa⟩ 1 (by rfl) (by rfl) (by rfl) (by rfl) (by rfl) (by rfl) (by rfl) (Nat.le_refl 1) (by rfl) ⟨rfl,W',rfl⟩)
  | simp only [*]
  | (split<;>(rename_i hsp;try simp only [FG] at hsp))
theorem zog (p:PlaneD) (hp:PlOk p) (e:EnD) (hr:p.ready=true) (s':StD) (hA0:ApOk p.c p.s e s') (hcm0:CmOk p e 4 p.q) (p1:PlaneD) (hR0:PlaneD.commit 4 p e=(p1,true)) (hp1:p1={ p with q:=p1.q }) (W:Nat→Prop):TriX Tryz.prog 47 [.one (.ptr 0 0 0),enS e] ([PP p W]) (.tup [.one (.val (iv p.s.count)),.one (.val (iv 0))]) (fun W'=>[PP { p1 with s:=s' } W']):=by
 obtain ⟨A,hA,FG⟩:=aF;change TriX _ _ _ [.obj (packO (plB p) W)] _ _;obtain ⟨q1,hq1⟩:=nm (p1.q);rw [←hq1] at hp1;subst hp1;clear hq1;replace hA:=kH hA
 refine zad (D:=ords47) (fnO zc1 Tryz.func47) 40 (fun w0 own ps R hpl hR kE=>?_)
 unfold enS
 refine zah 0 rfl rfl (fun x=>by simp [plB]) (fun Wq=>?_)
 change Eng.Good _ _ (Eng.St.mk _ _ [.own 151 [.val (iv p.c.regions),.gsl 1 p.c.L.zl,.gsl 2 p.c.L.cl,.gsl 3 p.c.L.tl,.gsl 4 p.c.L.vl,.gsl 5 p.c.L.rl,.gsl 6 p.c.L.ol,.val (iv p.c.blast),.val (iv p.c.lease),.val (iv p.c.bake),.ptr 7 0 0,.val (iv p.up),.val (iv p.s.tick),.val (iv p.s.count),.gsl 8 p.s.L.tl,.gsl 9 p.s.L.cl,.val (iv p.s.proven),.val (iv p.s.evac),.val (iv p.s.low),.val (iv p.s.high)],.grow 75 1 p.c.L.zl p.c.L.zs,.grow 137 2 p.c.L.cl p.c.L.cs,.grow 143 7 p.c.L.tl p.c.L.ts,.grow 141 2 p.c.L.vl p.c.L.vs,.grow 3 1 p.c.L.rl p.c.L.rs,.grow 3 1 p.c.L.ol p.c.L.os,PQ p.q Wq,.grow 134 12 p.s.L.tl p.s.L.ts,.grow 167 4 p.s.L.cl p.s.L.cs]);obtain ⟨K,hK⟩:=nm (p.c.L);obtain ⟨S,hS⟩:=nm (p.s.L);unfold PQ;obtain ⟨OQ,hOQ⟩:=nm (packO (qB p.q) Wq);rw [←hK,←hS,←hOQ];obtain ⟨e0,he0⟩:=nm (e.kind);rw [←he0];obtain ⟨e1,he1⟩:=nm (e.tick);rw [←he1];obtain ⟨e2,he2⟩:=nm (e.tenant);rw [←he2];obtain ⟨e3,he3⟩:=nm (e.cell);rw [←he3];obtain ⟨e4,he4⟩:=nm (e.other);rw [←he4];obtain ⟨e5,he5⟩:=nm (e.epoch);rw [←he5];obtain ⟨e6,he6⟩:=nm (e.lo);rw [←he6];obtain ⟨e7,he7⟩:=nm (e.hi);rw [←he7];obtain ⟨e8,he8⟩:=nm (e.n);rw [←he8];obtain ⟨n0,hn0⟩:=nm (s'.tick);obtain ⟨n1,hn1⟩:=nm (s'.count);obtain ⟨n2,hn2⟩:=nm (s'.L.tl);obtain ⟨n3,hn3⟩:=nm (s'.L.cl);obtain ⟨n4,hn4⟩:=nm (s'.proven);obtain ⟨n5,hn5⟩:=nm (s'.evac);obtain ⟨n6,hn6⟩:=nm (s'.low);obtain ⟨n7,hn7⟩:=nm (s'.high);obtain ⟨n8,hn8⟩:=nm (s'.L.ts);obtain ⟨n9,hn9⟩:=nm (s'.L.cs)
 have tr:TriP Tryz.prog 51 [.one (.ptr 0 0 0)] [.own 151 [.val (iv p.c.regions),.gsl 1 K.zl,.gsl 2 K.cl,.gsl 3 K.tl,.gsl 4 K.vl,.gsl 5 K.rl,.gsl 6 K.ol,.val (iv p.c.blast),.val (iv p.c.lease),.val (iv p.c.bake),.ptr 7 0 0,.val (iv p.up),.val (iv p.s.tick),.val (iv p.s.count),.gsl 8 S.tl,.gsl 9 S.cl,.val (iv p.s.proven),.val (iv p.s.evac),.val (iv p.s.low),.val (iv p.s.high)],.grow 75 1 K.zl K.zs,.grow 137 2 K.cl K.cs,.grow 143 7 K.tl K.ts,.grow 141 2 K.vl K.vs,.grow 3 1 K.rl K.rs,.grow 3 1 K.ol K.os,.obj OQ,.grow 134 12 S.tl S.ts,.grow 167 4 S.cl S.cs] (vB true):=by
  have:=zcy p Wq hp
  unfold plB PQ at this;rw [←hK,←hS,←hOQ,hr] at this;exact this
 have ta:TriM Tryz.prog 18 [cfgS K p.c,stS 6 S p.s,.agg [.val (iv e0),.val (iv e1),.val (iv e2),.val (iv e3),.val (iv e4),.val (iv e5),.val (iv e6),.val (iv e7),.val (iv e8)]] (cfgM K++stM S) (.tup [.agg [.val (iv n0),.val (iv n1),.gsl 8 n2,.gsl 9 n3,.val (iv n4),.val (iv n5),.val (iv n6),.val (iv n7)],.one (.val (iv 0))]) (cfgM K++stM S++[.grow 134 12 n2 n8,.grow 167 4 n3 n9]):=by rw [hK,hS,he0,he1,he2,he3,he4,he5,he6,he7,he8,hn0,hn1,hn2,hn3,hn4,hn5,hn6,hn7,hn8,hn9];exact hA0
 have f0:A.eq 0 0=true:=by rw [hA.out];rfl
 have tc:TriX Tryz.prog 104 [.one (.ptr 0 0 0),.agg [.val (iv e0),.val (iv e1),.val (iv e2),.val (iv e3),.val (iv e4),.val (iv e5),.val (iv e6),.val (iv e7),.val (iv e8)]] [.own 151 [.val (iv p.c.regions),.gsl 1 K.zl,.gsl 2 K.cl,.gsl 3 K.tl,.gsl 4 K.vl,.gsl 5 K.rl,.gsl 6 K.ol,.val (iv p.c.blast),.val (iv p.c.lease),.val (iv p.c.bake),.ptr 7 0 0,.val (iv p.up),.val (iv p.s.tick),.val (iv p.s.count),.gsl 8 S.tl,.gsl 9 S.cl,.val (iv p.s.proven),.val (iv p.s.evac),.val (iv p.s.low),.val (iv p.s.high)],.grow 75 1 K.zl K.zs,.grow 137 2 K.cl K.cs,.grow 143 7 K.tl K.ts,.grow 141 2 K.vl K.vs,.grow 3 1 K.rl K.rs,.grow 3 1 K.ol K.os,.obj OQ,.grow 134 12 S.tl S.ts,.grow 167 4 S.cl S.cs] (vB true) (fun W'=>[.own 151 [.val (iv p.c.regions),.gsl 1 K.zl,.gsl 2 K.cl,.gsl 3 K.tl,.gsl 4 K.vl,.gsl 5 K.rl,.gsl 6 K.ol,.val (iv p.c.blast),.val (iv p.c.lease),.val (iv p.c.bake),.ptr 7 0 0,.val (iv p.up),.val (iv p.s.tick),.val (iv p.s.count),.gsl 8 S.tl,.gsl 9 S.cl,.val (iv p.s.proven),.val (iv p.s.evac),.val (iv p.s.low),.val (iv p.s.high)],.grow 75 1 K.zl K.zs,.grow 137 2 K.cl K.cs,.grow 143 7 K.tl K.ts,.grow 141 2 K.vl K.vs,.grow 3 1 K.rl K.rs,.grow 3 1 K.ol K.os,.obj (packO (qB q1) W'),.grow 134 12 S.tl S.ts,.grow 167 4 S.cl S.cs]):=by rw [hOQ,hK,hS,he0,he1,he2,he3,he4,he5,he6,he7,he8];exact zl4 p hp e hcm0 _ hR0 Wq
 change Hid _ at hK hS hOQ hr he0 he1 he2 he3 he4 he5 he6 he7 he8 hn0 hn1 hn2 hn3 hn4 hn5 hn6 hn7 hn8 hn9;refine kN ?_
 repeat' (conv=>arg 3;try cbv);first
  | ((with_reducible refine kC ?_);(first|refine nP [.same 0,.same 1,.same 2,.same 3,.same 4,.same 5,.same 6,.same 7,.same 8,.same 9] tr ?_|refine nM [.rd (.gsl 1 K.zl),.rd (.gsl 2 K.cl),.rd (.gsl 3 K.tl),.rd (.gsl 4 K.vl),.rd (.gsl 5 K.rl),.rd (.gsl 6 K.ol),.rd (.gsl 8 S.tl),.rd (.gsl 9 S.cl)] ta ?_|(refine kX [.same 0,.same 1,.same 2,.same 3,.same 4,.same 5,.same 6,.same 7,.same 8,.same 9] tc (fun W3=>?_);obtain ⟨O2,hO2⟩:=nm (packO (qB q1) W3);rw [←hO2];replace hO2:=kH hO2;clear tc;refine kN ?_)))
  | (((with_reducible show Eng.Good _ _ (Eng.St.mk (Eng.It.head _ _ _ _ _ _ _::_) _ _));refine zb8 ⟨zc1,zaa⟩ 9 13 rfl rfl rfl rfl rfl rfl rfl (by rfl) rfl rfl rfl (by rfl) rfl ?_ ?_<;>(refine kN ?_;conv=>arg 3;cbv)))
  | ((with_reducible refine kG ?_);rw [hO2.out,hK.out,hn0.out,hn1.out,hn2.out,hn3.out,hn4.out,hn5.out,hn6.out,hn7.out,hn8.out,hn9.out];(first|(refine kK 0 [1,2,3,4,5,6,7,11,12] (m:=plB ({ p with q:=q1,s:=s' }:PlaneD)) W3 (fun W'=>?_))|(refine kK 0 [1,2,3,4,5,6,7,12,13] (m:=plB ({ p with q:=q1,s:=s' }:PlaneD)) W3 (fun W'=>?_)));refine zdk hR ⟨zc1,zaa⟩ 1 (by rfl) (by rfl) (by rfl) (by rfl) (by rfl) (by rfl) (by rfl) (Nat.le_refl 1) (by rfl) ⟨rfl,W',rfl⟩)
  | simp only [*]
  | (split<;>(rename_i hsp;try simp only [FG] at hsp))
end Go.Proofs.YtpigpajgjdcagaaGreat
