/- Parts. -/
import Derived.Test.YtpigpajgjdcagaaGreatUm1
import Derived.Test.YtpigpajgjdcagaaGreatUp5
import Derived.Test.YtpigpajgjdcagaaGreatUm2
import Derived.Test.YtpigpajgjdcagaaGreatUm3
import Derived.Test.YtpigpajgjdcagaaGreatUms
import Derived.Test.YtpigpajgjdcagaaGreatUl1
set_option linter.unusedSimpArgs false
set_option linter.unusedVariables false
set_option maxRecDepth 100000
set_option maxHeartbeats 60000000
namespace Go.Proofs.YtpigpajgjdcagaaGreat
open Go.RowKit Eng
theorem zhz (t n:Int):TriP Tryz.prog 50 [.one (.val (.int .i64 t)),.one (.val (.int .i64 n))] ([]) (enS (noteE t (n % 1000))):=by
 obtain ⟨A,hA,FG⟩:=aF;obtain ⟨m1,hm1⟩:=nm (n % 1000);rw [←hm1]
 have tm:=(by have:=zfj n 1000 (by omega) (by omega);rwa [←hm1] at this:TriP Tryz.prog 42 [.one (.val (.int .i64 n)),.one (.val (.int .i64 1000))] [] (vI m1))
 change Hid _ at hA hm1
 refine zad (D:=ords50) (fnO zy2 Tryz.func50) 7 (fun w0 own ps R hpl hR kE=>?_)
 refine kN ?_
 repeat' (conv=>arg 3;try cbv);first
  | ((with_reducible refine kC ?_);refine nP [] tm ?_)
  | ((with_reducible refine kG ?_);refine kO1 hR 0 ⟨rfl,rfl⟩)
  | simp only [*]
  | (split<;>(rename_i hsp;try simp only [FG] at hsp))
def oneC:CfgD:=⟨1,[0],[(0,5)],[],[(0,0)],[0,0,0],[0],1,5,0⟩
theorem zk0:CfgOk oneC:=by
 refine ⟨by decide,by decide,by decide,by decide,by decide,by decide,by decide,by decide,by decide,by decide,?_,?_,?_,?_,?_,?_,?_⟩
 all_goals simp [oneC]
theorem zyi :TriM Tryz.prog 86 [] ([]) (.agg [.val (iv 1),.slc 0 0 1 1,.slc 1 0 1 1,.val (.slice none 0 0),.slc 2 0 1 1,.slc 3 0 3 3,.slc 4 0 1 1,.val (iv 1),.val (iv 5),.val (iv 0)]) ([.own 75 (vals [.int .i64 0]),.own 137 (vals [.int .i64 0,.int .i64 5]),.own 141 (vals [.int .i64 0,.int .i64 0]),.own 3 (vals [.int .i64 0,.int .i64 0,.int .i64 0]),.own 3 (vals [.int .i64 0])]):=by
 obtain ⟨A,hA,FG⟩:=aF;replace hA:=kH hA
 refine zad (D:=ords86) (fnO zpy Tryz.func86) 10 (fun w0 own ps R hpl hR kE=>?_)
 refine kN ?_
 repeat' (conv=>arg 3;try cbv);first
  | ((with_reducible refine kG ?_);refine zcr hR ⟨zpy,zaa⟩ [1,2,3,4,5] ([.own 75 (vals [.int .i64 0]),.own 137 (vals [.int .i64 0,.int .i64 5]),.own 141 (vals [.int .i64 0,.int .i64 0]),.own 3 (vals [.int .i64 0,.int .i64 0,.int .i64 0]),.own 3 (vals [.int .i64 0])]) (by rfl) (.agg [.val (iv 1),.slc 0 0 1 1,.slc 1 0 1 1,.val (.slice none 0 0),.slc 2 0 1 1,.slc 3 0 3 3,.slc 4 0 1 1,.val (iv 1),.val (iv 5),.val (iv 0)]) (by rfl) (by rfl) (by rfl) (by rfl) (by rfl) hpl (by exact ⟨.inr rfl,.inr rfl,.inr rfl,.inr rfl,.inr rfl,trivial⟩) (by rfl) (Nat.zero_le _) (by rfl) ⟨rfl,rfl⟩)
  | simp only [*]
  | (split<;>(rename_i hsp;try simp only [FG] at hsp))
theorem CfgD.rowL (c:CfgD):c.L.zs.length=c.L.zl * 1∧c.L.cs.length=c.L.cl * 2∧c.L.ts.length=c.L.tl * 7∧c.L.vs.length=c.L.vl * 2∧c.L.rs.length=c.L.rl * 1∧c.L.os.length=c.L.ol * 1 :=
 ⟨by simp [CfgD.L],zc5 pairCells 2 (fun _=>rfl) c.cells,zc5 TenD.cells 7 (fun _=>rfl) c.tens,zc5 pairCells 2 (fun _=>rfl) c.vers,by simp [CfgD.L],by simp [CfgD.L]⟩
theorem zl3 {c:CfgD} {K:CfgL} (hK:K=c.L) {S:StL} (hS:S=(newSt c).L) (hlzl:K.zl≤1000000) (hlcl:K.cl≤1000000) (hltl:K.tl≤1000000) (hlvl:K.vl≤1000000) (hlrl:K.rl≤1000000) (hlol:K.ol≤1000000) (hst:StNewP) (hv:validK K c=0) (nq:Nat) (hq:K.rl=nq) (hn:nq=3∨nq=1) (tq:TriX Tryz.prog 91 [.one (.val (.int .i64 (nq:Int)))] [] (.tup [.one (.ptr 0 0 0),.one (.val (iv 0))]) (fun W'=>[PQ (QuoD.new nq) W'])):TriX Tryz.prog 36 [cfgS K c] (cfgM K) (.tup [.one (.ptr 6 0 0),.one (.val (iv 0))]) (fun W'=>cfgM K++[PP (PlaneD.new c) W']):=by
 obtain ⟨A,hA,FG⟩:=aF;obtain ⟨ni,hni⟩:=nm ((nq:Int));obtain ⟨up,hup⟩:=nm (std.sub .i64 (std.shl .i64 1 ni) 1);rw [←hni] at tq
 have f0:A.eq 0 0=true:=by rw [hA];rfl
 have f1:A.len K.rl=ni:=by
  rw [hA];rw [hni,hq];rfl
 have f2:A.le 0 ni=true:=by
  rw [hA];rw [hni];simp [std]
 have f3:A.sub .i64 (A.shl .i64 1 ni) 1=up:=by
  rw [hA];rw [hup]
 have tv:=(by have:=zrh hK hlzl hlcl hltl hlvl hlrl hlol;rwa [hv] at this:TriP Tryz.prog 90 [cfgS K c] (cfgM K) (vI 0))
 have tc:=(by obtain ⟨h1,h2,h3,h4,h5,h6⟩:=c.rowL;rw [←hK] at h1 h2 h3 h4 h5 h6;exact zl5 h1 h2 h3 h4 h5 h6 hlzl hlcl hltl hlvl hlrl hlol:TriM Tryz.prog 92 [cfgS K c] (cfgM K) (.agg [.val (iv c.regions),.gsl 6 K.zl,.gsl 7 K.cl,.gsl 8 K.tl,.gsl 9 K.vl,.gsl 10 K.rl,.gsl 11 K.ol,.val (iv c.blast),.val (iv c.lease),.val (iv c.bake)]) (cfgM K++[.grow 75 1 K.zl K.zs,.grow 137 2 K.cl K.cs,.grow 143 7 K.tl K.ts,.grow 141 2 K.vl K.vs,.grow 3 1 K.rl K.rs,.grow 3 1 K.ol K.os]))
 have ts:=hst hK hltl hlcl hS
 replace hA:=kH hA;clear hst;change Hid _ at hK hS hq hn hv hni hup
 refine zad (D:=ords36) (fnO zp3 Tryz.func36) 34 (fun w0 own ps R hpl hR kE=>?_)
 refine kN ?_
 repeat' (conv=>arg 3;try cbv);first
  | ((with_reducible refine kC ?_);(first|refine nP [.same 0,.same 1,.same 2,.same 3,.same 4,.same 5] tv ?_|(refine kX [] tq (fun W1=>?_);unfold PQ;obtain ⟨OQ,hOQ⟩:=nm (packO (qB (QuoD.new nq)) W1);rw [←hOQ];replace hOQ:=kH hOQ;refine kN ?_)|refine nM [.same 0,.same 1,.same 2,.same 3,.same 4,.same 5] tc ?_|refine nM [.rd (.gsl 8 K.zl),.rd (.gsl 9 K.cl),.rd (.gsl 10 K.tl),.rd (.gsl 11 K.vl),.rd (.gsl 12 K.rl),.rd (.gsl 13 K.ol)] ts ?_))
  | ((with_reducible refine kG ?_);have e1:nq=c.reps.length:=(by rw [←hq.out,hK.out];rfl);have e2:up=2 ^ c.reps.length-1:=(by rw [hup.out,hni.out,←e1];rcases hn.out with h|h<;>(rw [h];rfl));rw [e2,hOQ.out];replace hS:=hS.out;replace hK:=hK.out;subst e1;subst hS;subst hK;refine kK 16 [8,9,10,11,12,13,7,14,15] (m:=plB (PlaneD.new c)) W1 (fun W'=>?_);refine zhy hR ⟨zp3,zaa⟩ [0,1,2,3,4,5,16] (cfgM c.L++[PP (PlaneD.new c) W']) (by rfl) (.tup [.one (.ptr 6 0 0),.one (.val (iv 0))]) (by rfl) (by rfl) (by rfl) (by rfl) (by rfl) (by rfl) (by rfl) (by rfl) hpl (by exact ⟨.inr rfl,.inr rfl,.inr rfl,.inr rfl,.inr rfl,.inr rfl,.inr rfl,trivial⟩) (by rfl) (by simp [cfgM]) (by rfl) ⟨rfl,W',rfl⟩)
  | simp only [*]
  | (split<;>(rename_i hsp;try simp only [FG] at hsp))
end Go.Proofs.YtpigpajgjdcagaaGreat
