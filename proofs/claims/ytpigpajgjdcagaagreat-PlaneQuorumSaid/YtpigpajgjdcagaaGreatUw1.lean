/- Parts. -/
import Derived.Test.YtpigpajgjdcagaaGreatUo
import Derived.Test.YtpigpajgjdcagaaGreatUt
set_option linter.unusedSimpArgs false
set_option linter.unusedVariables false
set_option maxRecDepth 100000
set_option maxHeartbeats 60000000
namespace Go.Proofs.YtpigpajgjdcagaaGreat
open Go.RowKit Eng
abbrev vU (n:Int):SV:=.one (.val (.int .u64 n))
theorem zsq (n:Int) (h0:-9223372036854775808≤n) (h1:n≤9223372036854775807):TriP Tryz.prog 352 [.one (.val (.int .i64 n))] ([]) (vU ((zig n:Int))):=by
 obtain ⟨A,hA,FG⟩:=aF;obtain ⟨z,hz⟩:=nm ((zig n:Int));simp only [←hz]
 have f0:A.le 0 1=true:=by rw [hA];rfl
 have f1:A.lt n 0=true→A.bxor .u64 18446744073709551615 (A.shl .u64 (A.conv .u64 n) 1)=z:=by
  rw [hA]
  intro h;rw [hz];exact qba (by simpa [std] using h) h0
 have f2:A.lt n 0=false→A.shl .u64 (A.conv .u64 n) 1=z:=by
  rw [hA]
  intro h;rw [hz];exact qa9 (by simpa [std] using h) h1
 change Hid _ at hA hz
 refine zad (D:=ords352) (fnO ztn Tryz.func352) 11 (fun w0 own ps R hpl hR kE=>?_)
 refine kN ?_
 repeat' (conv=>arg 3;try cbv);first
  | ((with_reducible refine kG ?_);refine kO1 hR 0 ⟨?_,by rfl⟩)
  | simp only [*]
  | (split<;>(rename_i hsp;try simp only [FG] at hsp))
 all_goals (first|rfl|exact congrArg vU (f1 (by assumption))|exact congrArg vU (f2 (by assumption)))
theorem zia (B:List UInt8) {n:Nat} (hn:B.length=n):std.rows (bV B) 0 n 1=some (bV B):=by
 subst hn
 have h:(bV B).all (fun u=>u.oneCell')=true:=List.all_eq_true.2 fun v hv=>by
  obtain ⟨b,_,rfl⟩:=List.mem_map.1 hv;rfl
 simp [std,zxs,h,List.take_of_length_le,List.drop_zero];intro x hx;exact (List.all_eq_true.1 h) x hx
theorem zn0 (B:List UInt8) (n:Nat) (hn:B.length=n) (m:Int) (hm:0≤m∧m≤1000) (hb:n≤900000):TriM Tryz.prog 346 [.one (.rsl 0 n),.one (.val (.int .i64 m))] ([.rs n (bV B)]) (.one (.gsl 1 n)) [.rs n (bV B),.grow 5 1 n (bV B)]:=by
 obtain ⟨A,hA,FG⟩:=aF;obtain ⟨V,hV⟩:=nm (bV B);obtain ⟨q,hq⟩:=nm (std.add .i64 (std.len n) m);simp only [←hV]
 have hq2:q=n+m:=by rw [hq];exact wrap64 (by simp [std];omega) (by simp [std];omega)
 have f0:A.add .i64 (A.len n) m=q:=by
  rw [hA];rw [hq]
 have f1:A.cutok 0 q 1000000=true:=by
  rw [hA];rw [hq2];simp [std];omega
 have f2:A.cutn 0 0=0∧A.zeros [.int .u8 0] 0=[]:=by rw [hA];exact ⟨rfl,rfl⟩
 have f4:A.rows V 0 n 1=some V:=by
  rw [hA];rw [hV];exact zia B hn
 have f5:A.fits 0 n=true:=by
  rw [hA];simp [std];omega
 change Hid _ at hA hV hq hq2
 refine zad (D:=ords346) (fnO ztr Tryz.func346) 10 (fun w0 own ps R hpl hR kE=>?_)
 refine kN ?_
 repeat' (conv=>arg 3;try cbv);first
  | ((with_reducible refine kG ?_);refine kR1 hR [0,2] ⟨rfl,rfl⟩)
  | simp only [*]
  | (split<;>(rename_i hsp;try simp only [FG] at hsp))
theorem zb1 {n a b:Nat} {u v:SV} {y:Nat × SV} (h:y∈[(a,u),(b,v)]) (hu:u.ok n) (hv:v.ok n):y.2.ok n:=by
 simp at h
 rcases h with rfl|rfl
 ·exact hu
 ·exact hv
theorem zx3 (B:List UInt8) (m:Nat) (hm:B.length=m) (n:Int) (h0:-9223372036854775808≤n) (h1:n≤9223372036854775807) (hb:m≤900000):TriM Tryz.prog 345 [.one (.gsl 0 m),.one (.val (.int .i64 n))] ([.grow 5 1 m (bV B)]) (.one (.gsl 1 (m+(encI n).length))) [.dead,.grow 5 1 (m+(encI n).length) (bV (B++encI n))]:=by
 obtain ⟨A,hA,FG⟩:=aF;obtain ⟨z,hz⟩:=nm (zig n);obtain ⟨K,hK⟩:=nm (m+(encI n).length);obtain ⟨W,hW⟩:=nm (bV (B++encI n))
 obtain ⟨NN,hNN⟩:=nm (fun i:Nat=>m+i)
 obtain ⟨U,hU⟩:=nm (fun i:Nat=>((z / 128 ^ i:Nat):Int))
 obtain ⟨V,hV⟩:=nm (fun i:Nat=>bV (B++encPre i z))
 have hz64:z<18446744073709551616:=by rw [hz];exact qal ⟨h0,h1⟩
 simp only [←hK,←hW]
 have z0:NN 0=m:=by rw [hNN];rfl
 have z1:U 0=z:=by rw [hU];simp
 have z2:V 0=bV B:=by rw [hV];simp [encPre]
 rw [←z2]
 have bnd:∀ i:Nat,i≤9→A.le 128 (U i)=true→i+1≤9:=by
  rw [hA,hU];intro i h2 h3;exact zxb hz64 h2 (by have h6:(128:Int)≤((z / 128 ^ i:Nat):Int):=of_decide_eq_true h3;omega)
 have stp:∀ i:Nat,i+1≤9→encU 9 z=encPre i z++encU (9-i) (z / 128 ^ i)→A.le 128 (U i)=true→i+1≤9∧encU 9 z=encPre (i+1) z++encU (9-(i+1)) (z / 128 ^ (i+1)):=by
  rw [hA,hU];intro i h2 h3 h4;exact ⟨h2,qaa h2 h3 (by have h6:(128:Int)≤((z / 128 ^ i:Nat):Int):=of_decide_eq_true h4;omega)⟩
 have fit:∀ i:Nat,i≤9→A.fits (NN i) 1=true:=by
  rw [hA,hNN];intro i h2;simp [std];omega
 have sh:∀ i:Nat,A.shr (U i) 7 .u64=U (i+1):=by
  rw [hA,hU];intro i;exact (zkr _ 7 (by decide)).trans (by show ((z / 128 ^ i / 128:Nat):Int)=((z / 128 ^ (i+1):Nat):Int);rw [Nat.div_div_eq_div_mul,←Nat.pow_succ])
 have nxt:∀ i:Nat,A.app (V i) [.int .u8 (A.bor .u8 (A.conv .u8 (U i)) 128)]=V (i+1):=by
  rw [hA,hV,hU];intro i
  have e:=bor128 (z / 128 ^ i)
  dsimp only;rw [e]
  show bV _++_=_
  rw [encPre,←List.append_assoc,zki (B++encPre i z),zxr]
  congr 4
  simp
  try omega
 have nn1:∀ i:Nat,A.addn (NN i) 1=NN (i+1):=by rw [hA,hNN];intro i;rfl
 have lst:∀ i:Nat,i≤9→encU 9 z=encPre i z++encU (9-i) (z / 128 ^ i)→A.le 128 (U i)=false→A.app (V i) [.int .u8 (A.conv .u8 (U i))]=W:=by
  rw [hA,hV,hU,hW];intro i h2 h3 h4
  have h5:z / 128 ^ i<128:=by have h6:¬ (128:Int)≤((z / 128 ^ i:Nat):Int):=of_decide_eq_false h4;omega
  have e:=znn (z / 128 ^ i)
  dsimp only;rw [e]
  show bV _++_=_
  rw [encI,←hz,zqj h2 h3 h5,←List.append_assoc,zki (B++encPre i z),zxr]
  congr 4
  try simp
 have lsn:∀ i:Nat,i≤9→encU 9 z=encPre i z++encU (9-i) (z / 128 ^ i)→A.le 128 (U i)=false→NN (i+1)=K:=by
  rw [hA,hU,hNN,hK];intro i h2 h3 h4
  have h5:z / 128 ^ i<128:=by have h6:¬ (128:Int)≤((z / 128 ^ i:Nat):Int):=of_decide_eq_false h4;omega
  show m+(i+1)=_
  rw [encI,←hz,zqj h2 h3 h5];simp [zke]
 have tc:=zsq n h0 h1
 rw [←hz,←z1] at tc
 have f0:A.le 0 7=true:=by rw [hA];rfl
 change Hid _ at hA hz hK hW hNN hU hV
 refine zad (D:=ords345) (fnO zts Tryz.func345) 21 (fun w0 own ps R hpl hR kE=>?_)
 refine kN ?_
 repeat' (conv=>arg 3;try cbv);first
  | ((with_reducible refine kC ?_);refine nP [] tc ?_)
  | (((with_reducible refine kL ?_);refine zzz 0 (by rfl) (by rfl) ?_;(conv=>arg 3;cbv);refine zas 0 (α:={ i:Nat // i≤9∧encU 9 z=encPre i z++encU (9-i) (z / 128 ^ i) }) [6,7,8,9,10,11,12,13,14,15,16,17] (fun x=>[(0,.one (.gsl 1 (NN x.1))),(5,.one (.val (.int .u64 (U x.1))))]) (fun x=>[.dead,.grow 5 1 (NN x.1) (V x.1)]) (fun x=>9-x.1) ⟨0,Nat.zero_le _,by simp [encPre]⟩ (by dsimp only;simp only [z0,z1]<;>cbv<;>try simp) (by dsimp only;simp only [z0,z2]<;>rfl) (fun x=>rfl) (fun x y hy=>zb1 hy (Nat.lt_succ_self 1) trivial) rfl (fun x L' hL1 hL2=>?_);obtain ⟨i,hi,hen⟩:=x;dsimp only;have s0:=fit i hi;have s1:=sh i;refine kN ?_))
  | (((with_reducible refine kA ?_);have h9:=bnd i hi (by assumption);refine zal (l:=[0,3]) ⟨rfl,rfl,rfl⟩ hL2 ⟨i+1,h9,(stp i h9 hen (by assumption)).2⟩ (show 9-(i+1)<9-i by omega) rfl rfl (by rw [hpl];rfl) (zaj (n:=2) rfl) (zav (by cbv<;>trivial)) ⟨.inl rfl,.inr rfl,trivial⟩ (by dsimp only<;>cbv<;>try simp)))
  | ((with_reducible refine kG ?_);have hKK:=lsn i hi hen (by assumption);(try simp only [hKK]);refine kR1 hR [0,3] ⟨rfl,rfl⟩)
  | simp only [*]
  | (split<;>(rename_i hsp;try simp only [FG] at hsp))
theorem zpo (B:List UInt8) (m:Nat) (hm:B.length=m) (n:Int) (h0:-9223372036854775808≤n) (h1:n≤9223372036854775807) (hb:m≤900000):TriM Tryz.prog 330 [.one (.rsl 0 m),.one (.val (.int .i64 n))] ([.rs m (bV B)]) (.one (.gsl 1 (m+(encI n).length))) [.rs m (bV B),.grow 5 1 (m+(encI n).length) (bV (B++encI n))]:=by
 obtain ⟨A,hA,FG⟩:=aF;obtain ⟨V,hV⟩:=nm (bV B);obtain ⟨K,hK⟩:=nm (m+(encI n).length);obtain ⟨W,hW⟩:=nm (bV (B++encI n));simp only [←hV,←hK,←hW]
 have tc:=zn0 B m hm 10 (by omega) hb
 have tp:=zx3 B m hm n h0 h1 hb
 rw [←hV] at tc;rw [←hV,←hK,←hW] at tp;change Hid _ at hA hV hK hW
 refine zad (D:=ords330) (fnO ztv Tryz.func330) 7 (fun w0 own ps R hpl hR kE=>?_)
 refine kN ?_
 repeat' (conv=>arg 3;try cbv);first
  | ((with_reducible refine kC ?_);(first|refine nM [.same 0] tc ?_|refine nM [.same 1] tp ?_))
  | ((with_reducible refine kG ?_);refine kR1 hR [0,2] ⟨rfl,rfl⟩)
  | simp only [*]
  | (split<;>(rename_i hsp;try simp only [FG] at hsp))
def mixP (h n:Int):Int:=std.bxor .u64 (std.mul .u64 (std.bxor .u64 h (std.conv .u64 n)) 1099511628211) (std.shr (std.mul .u64 (std.bxor .u64 h (std.conv .u64 n)) 1099511628211) 29 .u64)
def mixL (h:Int) (B:List UInt8):Int:=B.foldl (fun h b=>mixP h (b.toNat:Int)) h
def sumP (B:List UInt8):Int:=mixP (mixL (mixP 14695981039346656037 8) B) B.length
def sumN (B:List UInt8):Nat:=(sumP B).toNat
theorem zwd (h n:Int):0≤mixP h n∧mixP h n<18446744073709551616:=by
 have e:mixP h n=IntKind.wrap .u64 ((BitVec.ofInt 64 (std.mul .u64 (std.bxor .u64 h (std.conv .u64 n)) 1099511628211) ^^^ BitVec.ofInt 64 (std.shr (std.mul .u64 (std.bxor .u64 h (std.conv .u64 n)) 1099511628211) 29 .u64)).toNat:Int):=rfl
 rw [e,wrapU'];omega
theorem qbo (B:List UInt8):sumN B<18446744073709551616:=by
 have:=zwd (mixL (mixP 14695981039346656037 8) B) B.length
 unfold sumN sumP;omega
theorem zvj (B:List UInt8):((sumN B:Nat):Int)=sumP B:=by
 have:=zwd (mixL (mixP 14695981039346656037 8) B) B.length
 unfold sumN;exact Int.toNat_of_nonneg this.1
theorem getB (B:List UInt8) {n i:Nat} (hn:B.length=n) (hi:i<n):std.get (bV B) (std.idx 0 (Int.ofNat i) 1) 0=some (.int .u8 ((B.getD i 0).toNat:Int)):=by
 subst hn;simp [std,bV,List.getD_eq_getElem?_getD,hi]
theorem u8lt (B:List UInt8) (i:Nat):(B.getD i 0).toNat<256:=(B.getD i 0).toNat_lt
theorem zwe (h:Int) (B:List UInt8) {i:Nat} (hi:i<B.length):mixL h (B.take (i+1))=mixP (mixL h (B.take i)) ((B.getD i 0).toNat:Int):=by
 have e:B.take (i+1)=B.take i++[B.getD i 0]:=by
  rw [List.take_add_one,List.getElem?_eq_getElem hi];simp [List.getD_eq_getElem?_getD,hi]
 rw [e,mixL,List.foldl_append];rfl
theorem zqd:∀ i s,le8 (i+1) s=le8 i s++[UInt8.ofNat (s / 256 ^ i % 256)]
 | 0,s=>by simp [le8]
 | i + 1, s => by
   have:=zqd i (s / 256)
   rw [le8,this,le8];rw [Nat.div_div_eq_div_mul,←Nat.pow_succ'];rfl
theorem ztd (n:Int) (h:Int):TriP Tryz.prog 349 [.one (.val (.int .u64 h)),.one (.val (.int .i64 n))] ([]) (vU (mixP h n)):=by
 obtain ⟨A,hA,FG⟩:=aF
 have f0:A.le 0 29=true:=by rw [hA];rfl
 replace hA:=kH hA
 refine zad (D:=ords349) (fnO zto Tryz.func349) 13 (fun w0 own ps R hpl hR kE=>?_)
 refine kN ?_
 repeat' (conv=>arg 3;try cbv);first
  | ((with_reducible refine kG ?_);refine kO1 hR 0 ⟨?_,by rfl⟩)
  | simp only [*]
  | (split<;>(rename_i hsp;try simp only [FG] at hsp))
 all_goals (clear hR hpl FG f0;replace hA:=hA.out;subst hA;rfl)
theorem ztc (h:Int) (B:List UInt8) (n:Nat) (hn:B.length=n) (hb:n≤1000000):TriP Tryz.prog 348 [.one (.val (.int .u64 h)),.one (.rsl 0 n)] ([.rs n (bV B)]) (vU (mixP (mixL h B) n)):=by
 obtain ⟨A,hA,FG⟩:=aF;obtain ⟨V,hV⟩:=nm (bV B)
 obtain ⟨X,hX⟩:=nm (fun i:Nat=>((B.getD i 0).toNat:Int))
 obtain ⟨H,hH⟩:=nm (fun i:Nat=>mixL h (B.take i))
 obtain ⟨M,hM⟩:=nm (mixP);obtain ⟨z,hz⟩:=nm (mixP (mixL h B) n);simp only [←hV,←hz]
 have l1:∀ i:Nat,A.lt (Int.ofNat i) (A.len n)=true→A.inb (Int.ofNat i) n=true:=by rw [hA];intro i;simp [std]
 have l2:∀ i:Nat,A.lt (Int.ofNat i) (A.len n)=true→A.add .i64 (Int.ofNat i) 1=Int.ofNat (i+1):=by rw [hA];intro i h;have hb:=hb;exact za3 (by simpa [std] using h) hb
 have l3:∀ i:Nat,A.lt (Int.ofNat i) (A.len n)=true→i<n:=by rw [hA];intro i;simp [std]
 have l4:∀ i:Nat,A.lt (Int.ofNat i) (A.len n)=false→n≤i:=by rw [hA];intro i;simp [std]
 have g1:∀ i:Nat,A.lt (Int.ofNat i) (A.len n)=true→A.get V (A.idx 0 (Int.ofNat i) 1) 0=some (.int .u8 (X i)):=by
  intro i hi;have:=l3 i hi;rw [hA,hV,hX];exact getB B hn this
 have g2:∀ i:Nat,A.conv .i64 (X i)=X i:=by
  intro i;rw [hA,hX];have:=u8lt B i;exact wrap64 (by dsimp only;omega) (by dsimp only;omega)
 have h0:h=H 0:=by rw [hH];rfl
 have g3:∀ i:Nat,A.lt (Int.ofNat i) (A.len n)=true→M (H i) (X i)=H (i+1):=by
  intro i hi;have:=l3 i hi;rw [hM,hH,hX];exact (zwe h B (by rw [hn];exact this)).symm
 have g4:M (H n) (A.len n)=z:=by
  rw [hM,hH,hz,hA,←hn];dsimp only;rw [List.take_length];rfl
 have tm:∀ h n:Int,TriP Tryz.prog 349 [.one (.val (.int .u64 h)),.one (.val (.int .i64 n))] [] (vU (M h n)):=by
  rw [hM];intro h n;exact ztd n h
 rw [h0];change Hid _ at hA hV hX hH hM hz
 refine zad (D:=ords348) (fnO ztp Tryz.func348) 20 (fun w0 own ps R hpl hR kE=>?_)
 refine kN ?_
 repeat' (conv=>arg 3;try cbv);first
  | ((with_reducible refine kC ?_);refine nP [] (tm _ _) ?_)
  | (((with_reducible refine kL ?_);refine zau 0 (α:={ i:Nat // i≤n }) [0,6,10,11,12,13,14,15,16,17] (fun x=>[(0,.one (.val (.int .u64 (H x.1)))),(9,.one (.val (.int .i64 (Int.ofNat x.1))))]) (fun x=>n-x.1) ⟨0,Nat.zero_le _⟩ (by dsimp only<;>cbv<;>try simp) (fun x y hy=>zb1 hy trivial trivial) rfl (fun x L' hok hL1 hL2=>?_);obtain ⟨i,hi⟩:=x;dsimp only;refine kN ?_))
  | (((with_reducible refine kA ?_);have hlt:=l3 i (by assumption);have hstep:=l2 i (by assumption);have h3:=g3 i (by assumption);refine zao ⟨rfl,rfl,rfl⟩ hok hL2 ⟨i+1,hlt⟩ (show n-(i+1)<n-i by omega) (by dsimp only;simp only [hstep,g2,h3]<;>cbv<;>try (simp only [g2,h3];try simp)) rfl))
  | ((with_reducible refine kG ?_);refine kO1 hR 1 ⟨?_,by rfl⟩)
  | simp only [*]
  | (split<;>(rename_i hsp;try simp only [FG] at hsp))
 all_goals (have hii:i=n:=Nat.le_antisymm hi (l4 i (by assumption));subst hii;simp only [g4])
theorem zss (B:List UInt8) (n:Nat) (hn:B.length=n) (hb:n≤1000000):TriP Tryz.prog 335 [.one (.val (.int .i64 8)),.one (.rsl 0 n)] ([.rs n (bV B)]) (vU (sumP B)):=by
 obtain ⟨A,hA,FG⟩:=aF;obtain ⟨V,hV⟩:=nm (bV B);obtain ⟨s,hs⟩:=nm (sumP B);obtain ⟨a,ha⟩:=nm (mixP 14695981039346656037 8);simp only [←hV,←hs]
 have t1:=ztd 8 14695981039346656037
 have t2:=ztc a B n hn hb
 rw [←ha] at t1
 rw [show mixP (mixL a B) n=s by rw [hs,ha,←hn];rfl,←hV] at t2
 change Hid _ at hA hV hs ha
 refine zad (D:=ords335) (fnO ztt Tryz.func335) 7 (fun w0 own ps R hpl hR kE=>?_)
 refine kN ?_
 repeat' (conv=>arg 3;try cbv);first
  | ((with_reducible refine kC ?_);(first|refine nP [] t1 ?_|refine nP [.same 0] t2 ?_))
  | ((with_reducible refine kG ?_);refine kO1 hR 1 ⟨?_,by rfl⟩)
  | simp only [*]
  | (split<;>(rename_i hsp;try simp only [FG] at hsp))
 all_goals rfl
end Go.Proofs.YtpigpajgjdcagaaGreat
