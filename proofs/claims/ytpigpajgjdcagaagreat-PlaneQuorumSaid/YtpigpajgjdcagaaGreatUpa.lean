/- Parts. -/
import Derived.Test.YtpigpajgjdcagaaGreatUp2
import Derived.Test.YtpigpajgjdcagaaGreatUp1
import Derived.Test.YtpigpajgjdcagaaGreatUg
import Derived.Test.YtpigpajgjdcagaaGreatUt
set_option linter.unusedSimpArgs false
set_option linter.unusedVariables false
set_option maxRecDepth 100000
set_option maxHeartbeats 60000000
namespace Go.Proofs.YtpigpajgjdcagaaGreat
open Go.RowKit Eng
def refNP (K:CfgL) (S:StL) (s:StD) (c:CfgD) (e:EnD):Int:=if validP K c e=false∨S.tl≠K.tl∨S.cl≠K.cl then 1 else if 4096≤s.count then 2 else if e.tick<s.tick then 3 else 0
theorem zpp {c:CfgD} {K:CfgL} (hK:K=c.L) {s:StD} {S:StL} (hS:S=s.L) (e:EnD) (ok:CfgOk c) (hk:e.kind=16):TriP Tryz.prog 66 [cfgS K c,stS 6 S s,enS e] (cfgM K++stM S) (vI (refNP K S s c e)):=by
 obtain ⟨A,hA,FG⟩:=aF;unfold GenF at FG;simp only [refNP];obtain ⟨V,hV⟩:=nm (validP K c);simp only [←hV]
 have FC:=cfgF hA hK
 unfold CfgF at FC
 have FS:=stF hA hS
 unfold StF at FS
 have f0:A.eq e.kind 1=false:=by
  rw [hA];rw [hk];rfl
 have f1:A.eq e.kind 2=false:=by
  rw [hA];rw [hk];rfl
 have f2:A.eq e.kind 3=false:=by
  rw [hA];rw [hk];rfl
 have f3:A.eq e.kind 4=false:=by
  rw [hA];rw [hk];rfl
 have f4:A.eq e.kind 5=false:=by
  rw [hA];rw [hk];rfl
 have f5:A.eq e.kind 6=false:=by
  rw [hA];rw [hk];rfl
 have f6:A.eq e.kind 7=false:=by
  rw [hA];rw [hk];rfl
 have f7:A.eq e.kind 8=false:=by
  rw [hA];rw [hk];rfl
 have f8:A.eq e.kind 9=false:=by
  rw [hA];rw [hk];rfl
 have f9:A.eq e.kind 10=false:=by
  rw [hA];rw [hk];rfl
 have f10:A.eq e.kind 11=false:=by
  rw [hA];rw [hk];rfl
 have f11:A.eq e.kind 12=false:=by
  rw [hA];rw [hk];rfl
 have f12:A.eq e.kind 13=false:=by
  rw [hA];rw [hk];rfl
 have f13:A.eq e.kind 14=false:=by
  rw [hA];rw [hk];rfl
 have f14:A.eq e.kind 15=false:=by
  rw [hA];rw [hk];rfl
 have tv:=fun e=>zsr hK e ok
 try simp only [←hV] at tv
 change Hid _ at hA hK hS hV
 refine zad (D:=ords66) (fnO zy0 Tryz.func66) 115 (fun w0 own ps R hpl hR kE=>?_)
 refine kN ?_
 repeat' (conv=>arg 3;try cbv);first
  | ((with_reducible refine kC ?_);refine nP [.same 0,.same 1,.same 2,.same 3,.same 4,.same 5] (tv _) ?_)
  | ((with_reducible refine kG ?_);refine kO1 hR 8 ⟨?_,by rfl⟩)
  | simp only [FG,FC,FS, *]
  | (split<;>(rename_i hsp;try simp only [FG] at hsp))
 all_goals ((try simp only [f0,f1,f2,f3,f4,f5,f6,f7,f8,f9,f10,f11,f12,f13,f14]);try clear hR hpl FG FC FS f0 f1 f2 f3 f4 f5 f6 f7 f8 f9 f10 f11 f12 f13 f14 tv;replace hA:=hA.out;subst hA;first|rfl|(simp_all [std];done)|(cases e;cases K;cases c;cases S;cases s;try dsimp only at *; (try simp_all [std])<;>(first|rfl|(intros;omega)|(split<;>first|omega|rfl|(simp_all;done))|grind)))
abbrev noS (x:Int):SV:=.tup [.agg [.val (iv 0),.val (iv 0),.val (.slice none 0 0),.val (.slice none 0 0),.val (iv 0),.val (iv 0),.val (iv 0),.val (iv 0)],.one (.val (iv x))]
theorem zyt {c:CfgD} {K:CfgL} (hK:K=c.L) {s:StD} {S:StL} (hS:S=s.L) (e:EnD) (ok:CfgOk c) (hk:e.kind=16) (hne:refNP K S s c e≠0):TriP Tryz.prog 18 [cfgS K c,stS 6 S s,enS e] (cfgM K++stM S) (noS (refNP K S s c e)):=by
 obtain ⟨A,hA,FG⟩:=aF;unfold GenF at FG;simp only [noS];obtain ⟨X,hX⟩:=nm (refNP K S s c e);simp only [←hX]
 have FC:=cfgF hA hK
 unfold CfgF at FC
 have FS:=stF hA hS
 unfold StF at FS
 have f0:A.eq X 0=false:=by
  rw [hA];rw [hX];simp [std,hne]
 have tv:=zpp hK hS e ok hk
 try simp only [←hX] at tv
 change Hid _ at hA hK hS hX
 refine zad (D:=ords18) (fnO zhf Tryz.func18) 29 (fun w0 own ps R hpl hR kE=>?_)
 refine kN ?_
 repeat' (conv=>arg 3;try cbv);first
  | ((with_reducible refine kC ?_);refine nP [.same 0,.same 1,.same 2,.same 3,.same 4,.same 5,.same 6,.same 7] tv ?_)
  | ((with_reducible refine kG ?_);refine zdk hR ⟨zhf,zaa⟩ 8 (by rfl) (by rfl) (by rfl) (by rfl) (by rfl) (by rfl) (by rfl) (Nat.le_refl 8) (by rfl) ⟨?_,by rfl⟩)
  | simp only [FG,FC,FS, *]
  | (split<;>(rename_i hsp;try simp only [FG] at hsp))
 all_goals ((try simp only [f0]);try clear hR hpl FG FC FS f0 tv;replace hA:=hA.out;subst hA;first|rfl|(simp_all [std];done)|(cases e;cases K;cases c;cases S;cases s;try dsimp only at *; (try simp_all [std])<;>(first|rfl|(intros;omega)|(split<;>first|omega|rfl|(simp_all;done))|grind)))
def effOrds:Ords:=[(300,[],0,[0]),(1,[(0,false),(1,false),(3,false),(4,false),(2,true),(6,false),(5,true)],7,[]),(9,[(0,false),(1,false),(2,false),(3,false),(4,false),(5,true),(6,true)],7,[]),(11,[(0,false),(1,false),(2,true),(3,true),(4,true),(5,true),(6,true)],7,[]),(14,[(0,false),(1,false),(2,true),(3,true),(4,true),(5,true),(6,true)],7,[]),(15,[(0,false),(1,false),(2,true),(3,true),(4,true),(5,true),(6,true)],7,[]),(5,[(0,false),(1,false),(2,false),(3,false),(4,false),(5,true),(6,true)],7,[])]
theorem zyp {s:StD} {S:StL} (hS:S=s.L) (e:EnD) (hk:e.kind=16) (hn:0≤s.count∧s.count≤4096) (hl:S.ts.length=S.tl * 12) (hl2:S.cs.length=S.cl * 4) (hb:S.tl≤1000000) (hb2:S.cl≤1000000):TriM Tryz.prog 67 [stS 0 S s,enS e] (stM S) (.agg [.val (iv e.tick),.val (iv (s.count+1)),.gsl 2 S.tl,.gsl 3 S.cl,.val (iv s.proven),.val (iv s.evac),.val (iv s.low),.val (iv s.high)]) (stM S++[.grow 134 12 S.tl S.ts,.grow 167 4 S.cl S.cs]):=by
 obtain ⟨A,hA,FG⟩:=aF;obtain ⟨n1,hn1⟩:=nm (s.count+1);rw [←hn1]
 have f0:A.add .i64 s.count 1=n1:=by
  rw [hA]
  rw [hn1];exact (wrap64 (by omega) (by omega)).trans (by omega)
 have f1:A.eq e.kind 16=true:=by
  rw [hA];rw [hk];rfl
 have f2:A.eq e.kind 1=false:=by
  rw [hA];rw [hk];rfl
 have f3:A.eq e.kind 2=false:=by
  rw [hA];rw [hk];rfl
 have f4:A.eq e.kind 3=false:=by
  rw [hA];rw [hk];rfl
 have f5:A.eq e.kind 4=false:=by
  rw [hA];rw [hk];rfl
 have f6:A.eq e.kind 5=false:=by
  rw [hA];rw [hk];rfl
 have f7:A.eq e.kind 6=false:=by
  rw [hA];rw [hk];rfl
 have f8:A.eq e.kind 7=false:=by
  rw [hA];rw [hk];rfl
 have f9:A.eq e.kind 8=false:=by
  rw [hA];rw [hk];rfl
 have f10:A.eq e.kind 9=false:=by
  rw [hA];rw [hk];rfl
 have f11:A.eq e.kind 10=false:=by
  rw [hA];rw [hk];rfl
 have f12:A.eq e.kind 11=false:=by
  rw [hA];rw [hk];rfl
 have f13:A.eq e.kind 12=false:=by
  rw [hA];rw [hk];rfl
 have f14:A.eq e.kind 13=false:=by
  rw [hA];rw [hk];rfl
 have f15:A.eq e.kind 14=false:=by
  rw [hA];rw [hk];rfl
 have f16:A.eq e.kind 15=false:=by
  rw [hA];rw [hk];rfl
 have tc1:=(zbx zg2 hl hb:TriM Tryz.prog 114 [.one (.rsl 0 S.tl)] [.rs S.tl S.ts] (.one (.gsl 1 S.tl)) [.rs S.tl S.ts,.grow 134 12 S.tl S.ts])
 have tc2:=(zbx zjd hl2 hb2:TriM Tryz.prog 115 [.one (.rsl 0 S.cl)] [.rs S.cl S.cs] (.one (.gsl 1 S.cl)) [.rs S.cl S.cs,.grow 167 4 S.cl S.cs])
 change Hid _ at hA hk hS hn1
 refine zad (D:=effOrds) (fnO zpz Tryz.func67) 80 (fun w0 own ps R hpl hR kE=>?_)
 refine kN ?_
 repeat' (conv=>arg 3;try cbv);first
  | ((with_reducible refine kC ?_);(first|refine nM [.rd (.rsl 0 S.tl)] tc1 ?_|refine nM [.rd (.rsl 1 S.cl)] tc2 ?_))
  | ((with_reducible refine kG ?_);refine zcr hR ⟨zpz,zaa⟩ [0,1,5,6] (stM S++[.grow 134 12 S.tl S.ts,.grow 167 4 S.cl S.cs]) (by rfl) (.agg [.val (iv e.tick),.val (iv n1),.gsl 2 S.tl,.gsl 3 S.cl,.val (iv s.proven),.val (iv s.evac),.val (iv s.low),.val (iv s.high)]) (by rfl) (by rfl) (by rfl) (by rfl) (by rfl) hpl (by exact ⟨.inr rfl,.inr rfl,.inr rfl,.inr rfl,trivial⟩) (by rfl) (by simp [stM]) (by rfl) ⟨rfl,rfl⟩)
  | simp only [*]
  | (split<;>(rename_i hsp;try simp only [FG] at hsp))
theorem zys {c:CfgD} {K:CfgL} (hK:K=c.L) {s:StD} {S:StL} (hS:S=s.L) (e:EnD) (ok:CfgOk c) (hk:e.kind=16) (hz:refNP K S s c e=0) (hn:0≤s.count∧s.count≤4096) (hl:S.ts.length=S.tl * 12) (hl2:S.cs.length=S.cl * 4) (hb:S.tl≤1000000) (hb2:S.cl≤1000000):TriM Tryz.prog 18 [cfgS K c,stS 6 S s,enS e] (cfgM K++stM S) (.tup [.agg [.val (iv e.tick),.val (iv (s.count+1)),.gsl 8 S.tl,.gsl 9 S.cl,.val (iv s.proven),.val (iv s.evac),.val (iv s.low),.val (iv s.high)],.one (.val (iv 0))]) (cfgM K++stM S++[.grow 134 12 S.tl S.ts,.grow 167 4 S.cl S.cs]):=by
 obtain ⟨A,hA,FG⟩:=aF;obtain ⟨n1,hn1⟩:=nm (s.count+1);rw [←hn1]
 have f0:A.eq 0 0=true:=by rw [hA];rfl
 have tv:=(by have:=zpp hK hS e ok hk;rwa [hz] at this:TriP Tryz.prog 66 [cfgS K c,stS 6 S s,enS e] (cfgM K++stM S) (vI 0))
 have te:=(by have:=zyp hS e hk hn hl hl2 hb hb2;rwa [←hn1] at this:TriM Tryz.prog 67 [stS 0 S s,enS e] (stM S) (.agg [.val (iv e.tick),.val (iv (n1)),.gsl 2 S.tl,.gsl 3 S.cl,.val (iv s.proven),.val (iv s.evac),.val (iv s.low),.val (iv s.high)]) (stM S++[.grow 134 12 S.tl S.ts,.grow 167 4 S.cl S.cs]))
 have tb:=(by have:=ztj e;rwa [show booksP e=false by simp [booksP,hk]] at this:TriP Tryz.prog 68 [enS e] [] (vB false))
 change Hid _ at hA hk hS hK hn1 hz
 refine zad (D:=ords18) (fnO zhf Tryz.func18) 29 (fun w0 own ps R hpl hR kE=>?_)
 refine kN ?_
 repeat' (conv=>arg 3;try cbv);first
  | ((with_reducible refine kC ?_);(first|refine nP [.same 0,.same 1,.same 2,.same 3,.same 4,.same 5,.same 6,.same 7] tv ?_|refine nM [.rd (.rsl 6 S.tl),.rd (.rsl 7 S.cl)] te ?_|refine nP [] tb ?_))
  | ((with_reducible refine kG ?_);refine zhy hR ⟨zhf,zaa⟩ [0,1,2,3,4,5,6,7,12,13] (cfgM K++stM S++[.grow 134 12 S.tl S.ts,.grow 167 4 S.cl S.cs]) (by rfl) (.tup [.agg [.val (iv e.tick),.val (iv (n1)),.gsl 8 S.tl,.gsl 9 S.cl,.val (iv s.proven),.val (iv s.evac),.val (iv s.low),.val (iv s.high)],.one (.val (iv 0))]) (by rfl) (by rfl) (by rfl) (by rfl) (by rfl) (by rfl) (by rfl) (by rfl) hpl (by exact ⟨.inr rfl,.inr rfl,.inr rfl,.inr rfl,.inr rfl,.inr rfl,.inr rfl,.inr rfl,.inr rfl,.inr rfl,trivial⟩) (by rfl) (by simp [cfgM,stM]) (by rfl) ⟨rfl,rfl⟩)
  | simp only [*]
  | (split<;>(rename_i hsp;try simp only [FG] at hsp))
end Go.Proofs.YtpigpajgjdcagaaGreat
