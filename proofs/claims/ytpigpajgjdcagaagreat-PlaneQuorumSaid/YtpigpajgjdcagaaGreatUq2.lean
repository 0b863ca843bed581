/- Parts. -/
import Derived.Test.YtpigpajgjdcagaaGreatUq1
import Derived.Test.YtpigpajgjdcagaaGreatUr16
set_option linter.unusedSimpArgs false
set_option linter.unusedVariables false
set_option maxRecDepth 100000
set_option maxHeartbeats 60000000
namespace Go.Proofs.YtpigpajgjdcagaaGreat
open Go.RowKit Eng
theorem zqc (r:RepD) (W:Nat→Prop) (h:r.j.log.length≤4096):TriM Tryz.prog 260 [.one (.ptr 0 0 0)] [RB r W] (.one (.gsl 1 r.j.log.length)) [RB r W,.grow 270 10 r.j.log.length (logV r.j.log)]:=zx5 _ _ _ _ _ _ _ _ _ _ _ _ _ _ _ (repJ r) W h
namespace Eng
theorem ztk {P:Program} {f:FuncId} {args:List SV} {b:MB} {rest rest':List MB} {v:SV} (h:TriM P f args (b::rest) v (b::rest')) (p0:Nat × Nat):TriM P f args (.obj (atO b p0)::rest) v (.obj (atO b p0)::rest'):=by
 refine ⟨h.1,fun w0 own ρ w H ha=>?_⟩
 obtain ⟨h1,h2,h3,H'⟩:=zmt H;refine (h.2 w0 own ρ w H' ha).mono ?_
 rintro e w' ⟨u,mem',ρ',rfl,⟨rfl,rfl⟩,hu,hle,hag,H''⟩
 have e0:ρ' 0=p0:=by rw [←hag 0 (by simp),h1]
 have:=znu h2 h3 H''
 rw [e0] at this;exact ⟨u,_,ρ',rfl,⟨rfl,rfl⟩,hu,hle,hag,this⟩
end Eng
def doneTo (q:QuoD) (i:Nat):List EnD:=(q.reps.take i).foldl QuoD.note1 q.done
theorem zi7 (q:QuoD) {i:Nat} (h:i<q.reps.length):doneTo q (i+1)=QuoD.note1 (doneTo q i) (q.rep (i:Int)):=by
 have e:q.rep (i:Int)=q.reps[i]:=by simp [QuoD.rep,h]
 unfold doneTo;rw [List.take_add_one,List.getElem?_eq_getElem h,List.foldl_append,e];rfl
theorem qb7 (q:QuoD):q.note={ q with done:=doneTo q q.reps.length }:=by
 unfold QuoD.note doneTo;rw [List.take_length]
theorem logRow {l:LogD} {c j:Nat} (hc:c≤l.length) (h:j<c):std.getN (logV (l.take c)) (std.idx 0 (Int.ofNat j) 10) 0 10=some (entV (l.getD j (0,EnD.of []))):=by
 have:=rowN entV 10 (fun _=>rfl) (l.take c) (0,EnD.of []) (Int.ofNat j) (by simp [std];omega)
 rw [show logV (l.take c)=(l.take c).flatMap entV from rfl,this]
 have h2:j<l.length:=by omega
 simp [List.getD_eq_getElem?_getD,h,h2]
theorem enStep {l:LogD} {j:Nat} (h:j<l.length):enVs ((l.take (j+1)).map (·.2))=enVs ((l.take j).map (·.2))++enV1 (l.getD j (0,EnD.of [])).2:=by
 unfold enVs;rw [List.take_add_one,List.getElem?_eq_getElem h,List.map_append,List.flatMap_append];simp [List.getD_eq_getElem?_getD,h]
theorem takLog (l:LogD) (c:Nat):std.tak (logV l) 0 c 10=logV (l.take c):=by
 have e:∀ (l:LogD) (k:Nat),(logV l).take (k * 10)=logV (l.take k):=by
  intro l
  induction l with
  | nil=>intro k;simp [logV]
  | cons x l ih =>
    intro k
    cases k with
    | zero=>simp [logV]
    | succ k =>
      have h:=ih k
      unfold logV at h ⊢
      rw [List.take_succ_cons,List.flatMap_cons,List.flatMap_cons,show (k+1) * 10=(entV x).length+k * 10 by rw [show (entV x).length=10 from rfl];omega,List.take_length_add_append,h]
 have:=e l c
 simpa [std] using this
theorem zdw (q:QuoD) (hn3:q.reps.length≤5) (hcl:∀ i:Nat,i<q.reps.length→0≤(q.rep i).commit∧(q.rep i).commit≤(q.rep i).j.log.length∧(q.rep i).j.log.length≤4096) (W:Nat→Prop):TriX Tryz.prog 177 [.one (.ptr 0 0 0)] ([PQ q W]) (.tup []) (fun W'=>[PQ q.note W']):=by
 obtain ⟨A,hA,FG⟩:=aF;rw [qb7]
 change TriX _ _ _ [.obj (packO (qB q) W)] _ (fun W'=>[.obj (packO (qB { q with done:=doneTo q q.reps.length }) W')])
 replace hA:=kH hA
 refine zad (D:=ords177) (fnO zva Tryz.func177) 47 (fun w0 own ps R hpl hR kE=>?_)
 refine zah 0 rfl rfl (fun x=>by simp [qB]) (fun x=>?_)
 change Eng.Good _ _ (Eng.St.mk _ _ (qB q x));unfold qB;obtain ⟨n,hn⟩:=nm (q.reps.length);rw [←hn];obtain ⟨PV,hPV⟩:=nm (x.xs.map ptrV);rw [←hPV];obtain ⟨nn,hnn⟩:=nm (q.net.length);rw [←hnn];obtain ⟨NV,hNV⟩:=nm (netV q.net x.ps);rw [←hNV];obtain ⟨L,hL⟩:=nm (repOs q.reps x.xs);rw [←hL];obtain ⟨OE,hOE⟩:=nm (poolO (eOs q.net x.ps));rw [←hOE];obtain ⟨OR,hOR⟩:=nm (poolO L);rw [←hOR]
 have hn5:n≤5:=by rw [hn];exact hn3
 replace hA:=hA.out
 obtain ⟨ad,had⟩:=nm (fun z:Int=>(x.xs.getD z.toNat (0,fun _=>False)).1)
 obtain ⟨bR,hbR⟩:=nm (fun z:Int=>RB (q.rep z) (x.xs.getD z.toNat (0,fun _=>False)).2)
 have p1:∀ z:Int,A.inb z n=true→A.get PV (A.idx 0 z 1) 0=some (.pointer (some ⟨ad z,0,none⟩)):=by
  rw [hA,hn,hPV,had];intro z hz;exact zd5 x hz
 have p2:∀ z:Int,A.inb z n=true→L[z.toNat]?=some (atO (bR z) (ad z,0)):=by
  rw [hA,hn,hL,hbR,had];intro z hz;exact zd3 x hz
 obtain ⟨ro,hro⟩:=nm (fun z:Int=>(q.rep z).role)
 obtain ⟨cm,hcm⟩:=nm (fun z:Int=>(q.rep z).commit)
 obtain ⟨te,hte⟩:=nm (fun z:Int=>(q.rep z).j.term)
 have t1:∀ z,TriP Tryz.prog 269 [.one (.ptr 0 0 0)] [bR z] (vI (ro z)):=by
  rw [hbR,hro];intro z;exact zm7 _ _
 have t2:∀ z,TriP Tryz.prog 259 [.one (.ptr 0 0 0)] [bR z] (vI (cm z)):=by
  rw [hbR,hcm];intro z;exact zfa _ _
 have t3:∀ z,TriP Tryz.prog 241 [.one (.ptr 0 0 0)] [bR z] (vI (te z)):=by
  rw [hbR,hte];intro z;exact zm6 _ _
 have l1:∀ i:Nat,A.lt (Int.ofNat i) (A.len n)=true→A.inb (Int.ofNat i) n=true:=by rw [hA];intro i;simp [std]
 have l2:∀ i:Nat,A.lt (Int.ofNat i) (A.len n)=true→A.add .i64 (Int.ofNat i) 1=Int.ofNat (i+1):=by rw [hA];intro i h;have hb:=(show n≤1000000 by omega);exact za3 (by simpa [std] using h) hb
 have l3:∀ i:Nat,A.lt (Int.ofNat i) (A.len n)=true→i<n:=by rw [hA];intro i;simp [std]
 have l4:∀ i:Nat,A.lt (Int.ofNat i) (A.len n)=false→n≤i:=by rw [hA];intro i;simp [std]
 obtain ⟨DN,hDN⟩:=nm (fun i:Nat=>(doneTo q i).length)
 obtain ⟨DF,hDF⟩:=nm (fun i:Nat=>enVs (doneTo q i))
 obtain ⟨cN,hcN⟩:=nm (fun i:Nat=>(q.rep (i:Int)).commit.toNat)
 obtain ⟨LN,hLN⟩:=nm (fun i:Nat=>(q.rep (i:Int)).j.log.length)
 obtain ⟨LV,hLV⟩:=nm (fun i:Nat=>logV (q.rep (i:Int)).j.log)
 obtain ⟨LC,hLC⟩:=nm (fun i:Nat=>logV ((q.rep (i:Int)).j.log.take (q.rep (i:Int)).commit.toNat))
 obtain ⟨EP,hEP⟩:=nm (fun i j:Nat=>enVs (((q.rep (i:Int)).j.log.take j).map (·.2)))
 obtain ⟨NJ,hNJ⟩:=nm (fun j:Nat=>j)
 obtain ⟨x0,hx0⟩:=nm (fun i j:Nat=>((q.rep (i:Int)).j.log.getD j (0,EnD.of [])).1)
 obtain ⟨x1,hx1⟩:=nm (fun i j:Nat=>((q.rep (i:Int)).j.log.getD j (0,EnD.of [])).2.kind)
 obtain ⟨x2,hx2⟩:=nm (fun i j:Nat=>((q.rep (i:Int)).j.log.getD j (0,EnD.of [])).2.tick)
 obtain ⟨x3,hx3⟩:=nm (fun i j:Nat=>((q.rep (i:Int)).j.log.getD j (0,EnD.of [])).2.tenant)
 obtain ⟨x4,hx4⟩:=nm (fun i j:Nat=>((q.rep (i:Int)).j.log.getD j (0,EnD.of [])).2.cell)
 obtain ⟨x5,hx5⟩:=nm (fun i j:Nat=>((q.rep (i:Int)).j.log.getD j (0,EnD.of [])).2.other)
 obtain ⟨x6,hx6⟩:=nm (fun i j:Nat=>((q.rep (i:Int)).j.log.getD j (0,EnD.of [])).2.epoch)
 obtain ⟨x7,hx7⟩:=nm (fun i j:Nat=>((q.rep (i:Int)).j.log.getD j (0,EnD.of [])).2.lo)
 obtain ⟨x8,hx8⟩:=nm (fun i j:Nat=>((q.rep (i:Int)).j.log.getD j (0,EnD.of [])).2.hi)
 obtain ⟨x9,hx9⟩:=nm (fun i j:Nat=>((q.rep (i:Int)).j.log.getD j (0,EnD.of [])).2.n)
 have hr:∀ i:Nat,A.lt (Int.ofNat i) (A.len n)=true→i<q.reps.length:=by intro i hi;have:=l3 i hi;rw [hn] at this;exact this
 have hcl':∀ i:Nat,A.lt (Int.ofNat i) (A.len n)=true→0≤(q.rep (i:Int)).commit∧(q.rep (i:Int)).commit≤(q.rep (i:Int)).j.log.length∧(q.rep (i:Int)).j.log.length≤4096:=by
  intro i hi;exact hcl i (hr i hi)
 have d0:DN 0=q.done.length:=by rw [hDN];rfl
 have d1:DF 0=enVs q.done:=by rw [hDF];rfl
 have s1:∀ i:Nat,A.lt (Int.ofNat i) (A.len n)=true→A.le (cm (Int.ofNat i)) (A.len (DN i))=true→DN (i+1)=DN i∧DF (i+1)=DF i:=by
  intro i hi h;rw [hA,hcm,hDN] at h;rw [hDN,hDF];dsimp only;rw [zi7 q (hr i hi)];have h2:(q.rep (i:Int)).commit≤(doneTo q i).length:=of_decide_eq_true h;unfold QuoD.note1;rw [if_pos h2];exact ⟨rfl,rfl⟩
 have s2:∀ i:Nat,A.lt (Int.ofNat i) (A.len n)=true→A.le (cm (Int.ofNat i)) (A.len (DN i))=false→DN (i+1)=cN i∧DF (i+1)=EP i (cN i):=by
  intro i hi h;rw [hA,hcm,hDN] at h;rw [hDN,hDF,hcN,hEP];dsimp only;rw [zi7 q (hr i hi)];have h2:¬ (q.rep (i:Int)).commit≤(doneTo q i).length:=of_decide_eq_false h;unfold QuoD.note1;rw [if_neg h2];have:=hcl' i hi;exact ⟨by simp;omega,rfl⟩
 have t4:∀ i:Nat,A.lt (Int.ofNat i) (A.len n)=true→TriM Tryz.prog 260 [.one (.ptr 0 0 0)] [.obj (atO (bR (Int.ofNat i)) (ad (Int.ofNat i),0))] (.one (.gsl 1 (LN i))) [.obj (atO (bR (Int.ofNat i)) (ad (Int.ofNat i),0)),.grow 270 10 (LN i) (LV i)]:=by
  intro i hi;rw [hLN,hLV,hbR];exact ztk (zqc _ _ (hcl' i hi).2.2) _
 have m1:∀ i:Nat,A.lt (Int.ofNat i) (A.len n)=true→A.cutok 0 (cm (Int.ofNat i)) 1000000=true∧A.cutok 0 (cm (Int.ofNat i)) (LN i)=true∧A.cutn 0 (cm (Int.ofNat i))=cN i∧A.tak (LV i) 0 (cN i) 10=LC i:=by
  intro i hi;have:=hcl' i hi;rw [hA,hcm,hLN,hcN,hLV,hLC];exact ⟨by simp [std];omega,by simp [std];omega,by simp [std],takLog _ _⟩
 have m2:A.cutn 0 0=0∧A.zeros [.int .i64 0,.int .i64 0,.int .i64 0,.int .i64 0,.int .i64 0,.int .i64 0,.int .i64 0,.int .i64 0,.int .i64 0] 0=[]:=by rw [hA];exact ⟨rfl,rfl⟩
 have j1:∀ i j:Nat,A.lt (Int.ofNat j) (A.len (cN i))=true→j<cN i:=by rw [hA];intro i j;simp [std]
 have j2:∀ i j:Nat,A.lt (Int.ofNat j) (A.len (cN i))=true→A.inb (Int.ofNat j) (cN i)=true:=by rw [hA];intro i j;simp [std]
 have j4:∀ i j:Nat,A.lt (Int.ofNat j) (A.len (cN i))=false→cN i≤j:=by rw [hA];intro i j;simp [std]
 have jb:∀ i:Nat,A.lt (Int.ofNat i) (A.len n)=true→cN i≤LN i∧LN i≤4096:=by intro i hi;have:=hcl' i hi;rw [hcN,hLN];dsimp only;omega
 have j3:∀ i j:Nat,A.lt (Int.ofNat i) (A.len n)=true→A.lt (Int.ofNat j) (A.len (cN i))=true→A.add .i64 (Int.ofNat j) 1=Int.ofNat (j+1):=by
  intro i j hi hj;have h1:=j1 i j hj;have h2:=jb i hi;rw [hA];exact za3 h1 (by omega)
 have j5:∀ i j:Nat,A.lt (Int.ofNat i) (A.len n)=true→A.lt (Int.ofNat j) (A.len (cN i))=true→A.getN (LC i) (A.idx 0 (Int.ofNat j) 10) 0 10=some [iv (x0 i j),iv (x1 i j),iv (x2 i j),iv (x3 i j),iv (x4 i j),iv (x5 i j),iv (x6 i j),iv (x7 i j),iv (x8 i j),iv (x9 i j)]:=by
  intro i j hi hj;have h1:=j1 i j hj;have h2:=jb i hi;rw [hcN] at h1;rw [hcN,hLN] at h2;rw [hA,hLC,hx0,hx1,hx2,hx3,hx4,hx5,hx6,hx7,hx8,hx9];exact logRow h2.1 h1
 have j6:∀ i j:Nat,A.lt (Int.ofNat i) (A.len n)=true→A.lt (Int.ofNat j) (A.len (cN i))=true→A.app (EP i j) [iv (x1 i j),iv (x2 i j),iv (x3 i j),iv (x4 i j),iv (x5 i j),iv (x6 i j),iv (x7 i j),iv (x8 i j),iv (x9 i j)]=EP i (j+1):=by
  intro i j hi hj;have h1:=j1 i j hj;have h2:=jb i hi;rw [hLN] at h2;rw [hA,hEP,hx1,hx2,hx3,hx4,hx5,hx6,hx7,hx8,hx9];dsimp only at h2 ⊢;rw [enStep (by omega)];rfl
 have j7:∀ j:Nat,j≤4096→A.fits (NJ j) 1=true:=by intro j hj;rw [hA,hNJ];simp [std];omega
 have j8:∀ j:Nat,A.addn (NJ j) 1=NJ (j+1):=by intro j;rw [hA,hNJ];rfl
 have j9:NJ 0=0:=by rw [hNJ]
 have j10:∀ i:Nat,NJ (cN i)=cN i:=by intro i;rw [hNJ]
 have j11:∀ i:Nat,EP i 0=[]:=by intro i;rw [hEP];rfl
 rw [←d0,←d1];change Hid _ at hA hn hPV hnn hNV hL hOE hOR had hbR hro hcm hte hDN hDF hcN hLN hLV hLC hEP hNJ hx0 hx1 hx2 hx3 hx4 hx5 hx6 hx7 hx8 hx9;refine kN ?_
 repeat' (conv=>arg 3;try cbv);first
  | ((with_reducible refine kC ?_);(first|(refine zj7 4 ((Int.ofNat i):Int).toNat [] hOR.out (by rfl) (p2 (Int.ofNat i) (l1 _ (by assumption))) (t2 (Int.ofNat i)) (by rfl) rfl rfl rfl rfl rfl rfl ?_;refine kN ?_)|(refine zb5 4 (Int.ofNat i).toNat [.one (.ptr 7 0 0)] hOR.out (by rfl) (p2 _ (l1 _ (by assumption))) rfl rfl (fun ρ hρ=>by { have e:ρ 7=_:=hρ;show [Value.pointer _]=[Value.pointer (some ⟨(ρ 7).1,(ρ 7).2+(0+0),none⟩)];rw [e] }) (fun O1 hO1=>?_);refine kM [.same 7] (t4 _ (by assumption)) ?_;refine zb9 4 7 (Int.ofNat i).toNat hO1 (by rfl) (by rfl) rfl (zdn (p2 _ (l1 _ (by assumption)))) rfl (fun O2 hO2=>?_);obtain rfl:OR=O2:=by { rw [hO2,hOR.out,zp6 (p2 _ (l1 _ (by assumption)))] };change Hid _ at hO1 hO2;refine kN ?_)))
  | (((with_reducible refine kL ?_);refine zas 0 (α:={ i:Nat // i≤n }) [3,4,6,13,14,15,16,17,18,19,20,21,22,23,24,25,26,27,28,29,30,31,32,33,34,35,36,37,38,39,40,41,42,43,44,45,46,47] (fun x=>[(12,.one (.val (.int .i64 (Int.ofNat x.1))))]) (fun x=>[.own 209 [.gsl 1 n,.gsl 2 nn,.gsl 3 (DN x.1)],.grow 210 1 n PV,.grow 226 9 nn NV,.grow 45 9 (DN x.1) (DF x.1),.obj OR,.obj OE]) (fun x=>n-x.1) ⟨0,Nat.zero_le _⟩ (by cbv;simp) (by dsimp only) (fun x=>rfl) (fun x y hy=>za0 hy trivial) rfl (fun x L' hL1 hL2=>?_);obtain ⟨i,hi⟩:=x;dsimp only;refine kN ?_))
  | (((with_reducible refine kL ?_);refine zas 1 (α:={ j:Nat // j≤cN i }) [26,6,34,35,36,37,38,39,40,41,42] (fun x=>[(33,.one (.val (.int .i64 (Int.ofNat x.1)))),(4,.one (.gsl 6 (NJ x.1)))]) (fun x=>[.own 209 [.gsl 1 n,.gsl 2 nn,.gsl 3 (DN i)],.grow 210 1 n PV,.grow 226 9 nn NV,.grow 45 9 (DN i) (DF i),.obj OR,.obj OE,.grow 45 9 (NJ x.1) (EP i x.1),.dead,.dead,.grow 270 10 (cN i) (LC i)]) (fun x=>cN i-x.1) ⟨0,Nat.zero_le _⟩ (by dsimp only;simp only [j9]<;>cbv<;>try simp) (by dsimp only;simp only [j9,j11]<;>rfl) (fun x=>rfl) (fun x y hy=>zb1 hy trivial (by show 6<10;omega)) rfl (fun x L2 hM1 hM2=>?_);obtain ⟨j,hj⟩:=x;have j7':=j7 j (Nat.le_trans hj (Nat.le_trans (jb i (by assumption)).1 (jb i (by assumption)).2));dsimp only;refine kN ?_))
  | (((with_reducible show Eng.Good _ _ (Eng.St.mk (Eng.It.again 1::_) _ _));have hlt:=j1 i j (by assumption);have hstep:=j3 i j (by assumption) (by assumption);refine zal (l:=[0,1,2,3,4,5,12,7,8,9]) ⟨rfl,rfl,rfl⟩ hM2 ⟨j+1,hlt⟩ (show cN i-(j+1)<cN i-j by omega) rfl rfl (by rw [hpl];rfl) (zaj (n:=10) rfl) (zav (by cbv<;>trivial)) ⟨(by first|exact .inl rfl|exact .inr rfl),(by first|exact .inl rfl|exact .inr rfl),(by first|exact .inl rfl|exact .inr rfl),(by first|exact .inl rfl|exact .inr rfl),(by first|exact .inl rfl|exact .inr rfl),(by first|exact .inl rfl|exact .inr rfl),(by first|exact .inl rfl|exact .inr rfl),(by first|exact .inl rfl|exact .inr rfl),(by first|exact .inl rfl|exact .inr rfl),(by first|exact .inl rfl|exact .inr rfl),trivial⟩ (by dsimp only;(try simp only [hstep])<;>cbv<;>try simp)))
  | (((with_reducible show Eng.Good _ _ (Eng.St.mk (Eng.It.again 0::_) _ _));have hlt:=l3 i (by assumption);have hstep:=l2 i (by assumption);have hB:=s1 i (by assumption) (by assumption);refine zal (l:=[0,1,2,3,4,5]) ⟨rfl,rfl,rfl⟩ hL2 ⟨i+1,hlt⟩ (show n-(i+1)<n-i by omega) rfl rfl (by rw [hpl];rfl) (zaj (n:=6) rfl) (zav (by cbv<;>trivial)) (by dsimp only;simp only [hB.1,hB.2];exact ⟨(by first|exact .inl rfl|exact .inr rfl),(by first|exact .inl rfl|exact .inr rfl),(by first|exact .inl rfl|exact .inr rfl),(by first|exact .inl rfl|exact .inr rfl),(by first|exact .inl rfl|exact .inr rfl),(by first|exact .inl rfl|exact .inr rfl),trivial⟩) (by dsimp only;(try simp only [hstep])<;>cbv<;>try simp)))
  | (((with_reducible show Eng.Good _ _ (Eng.St.mk (Eng.It.again 0::_) _ _));have hlt:=l3 i (by assumption);have hstep:=l2 i (by assumption);have hB:=s2 i (by assumption) (by assumption);have hjj:j=cN i:=Nat.le_antisymm hj (j4 i j (by assumption));subst hjj;have e0:L' 0=L2 0:=hM1 0 (by decide);have hL3:=hL2;rw [e0] at hL3;refine zal (l:=[0,1,2,6,4,5]) ⟨rfl,rfl,rfl⟩ hL3 ⟨i+1,hlt⟩ (show n-(i+1)<n-i by omega) rfl rfl (by rw [hpl];rfl) (zaj (n:=6) rfl) (zav (by cbv<;>trivial)) (by dsimp only;simp only [hB.1,hB.2,j10];exact ⟨(by first|exact .inl rfl|exact .inr rfl),(by first|exact .inl rfl|exact .inr rfl),(by first|exact .inl rfl|exact .inr rfl),(by first|exact .inl rfl|exact .inr rfl),(by first|exact .inl rfl|exact .inr rfl),(by first|exact .inl rfl|exact .inr rfl),trivial⟩) (by dsimp only;(try simp only [hstep])<;>cbv<;>try simp)))
  | (((with_reducible refine kZ ?_);have hiN:i=n:=Nat.le_antisymm hi (l4 i (by assumption));subst hiN;rw [hDN.out,hDF.out,hPV.out,hOR.out,hOE.out,hL.out,hnn.out,hNV.out,hn.out];refine kK 0 [1,2,3,4,5] (m:=qB { q with done:=doneTo q q.reps.length }) ⟨x.xs,x.ps,x.hx,x.ok⟩ (fun W'=>?_);refine zbp hR 1 (by rfl) (by rfl) (by rfl) (Nat.le_refl 1) ⟨rfl,W',rfl⟩))
  | simp only [FG,m2,j8, *]
  | (split<;>(rename_i hsp;try simp only [FG] at hsp))
end Go.Proofs.YtpigpajgjdcagaaGreat
