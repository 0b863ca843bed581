/- Parts. -/
import Derived.Test.YtpigpajgjdcagaaGreatUj2
set_option linter.unusedSimpArgs false
set_option linter.unusedVariables false
set_option maxRecDepth 100000
set_option maxHeartbeats 60000000
namespace Go.Proofs.YtpigpajgjdcagaaGreat
open Go.RowKit Eng
def accE (B:List UInt8):Nat→Nat
 | 0=>0
 | k+1=>accE B k+(B.getD k 0).toNat * 256 ^ k
theorem zpk (B:List UInt8):∀ k,accE B k<256 ^ k
 | 0=>by simp [accE]
 | k + 1 => by
   have:=zpk B k
   have h2:(B.getD k 0).toNat≤255:=by have:=u8lt B k;omega
   have h3:=Nat.mul_le_mul_right (256 ^ k) h2
   rw [accE,Nat.pow_succ];omega
theorem zxv (B:List UInt8) {k:Nat} (hk:k<8):std.bor .u64 ((accE B k:Nat):Int) (std.shl .u64 (std.conv .u64 ((B.getD k 0).toNat:Int)) (std.conv .u64 (std.mul .i64 8 (Int.ofNat k))))=((accE B (k+1):Nat):Int):=by
 have e1:std.mul .i64 8 (Int.ofNat k)=((8 * k:Nat):Int):=by
  refine (wrap64 ?_ ?_).trans ?_<;>simp<;>omega
 have ep:256 ^ k=2 ^ (8 * k):=by rw [Nat.pow_mul]
 have hu:=u8lt B k
 have hb:accE B (k+1)<18446744073709551616:=by
  have:=zpk B (k+1)
  have h4:256 ^ (k+1)≤256 ^ 8:=Nat.pow_le_pow_right (by decide) (by omega)
  omega
 rw [e1,zey (by omega),zey (by omega)]
 have hb':accE B k+(B.getD k 0).toNat * 2 ^ (8 * k)<18446744073709551616:=by rw [←ep];exact hb
 rw [zvo (by omega) (by omega),zqp (by rw [←ep];exact zpk B k) hb',accE,ep]
theorem zwk:∀ (f s k:Nat) (r:List UInt8),k<f→((le8 f s++r).getD k 0).toNat=s / 256 ^ k % 256
 | 0,_,_,_,h=>by omega
 | f+1,s,0,r,_=>by simp [le8]
 | f + 1, s, k + 1, r, h => by
   have:=zwk f (s / 256) k r (by omega)
   rw [Nat.div_div_eq_div_mul,←Nat.pow_succ'] at this
   simpa [le8] using this
theorem zqz (s:Nat) (r:List UInt8):∀ k,k≤8→accE (le8 8 s++r) k=s % 256 ^ k
 | 0,_=>by simp [accE,Nat.mod_one]
 | k + 1, h => by
   rw [accE,zqz s r k (by omega),zwk 8 s k r (by omega),Nat.pow_succ,Nat.mod_mul,Nat.mul_comm]
namespace Eng
section
variable {R:Ending→World→Prop} {w0:World} {own:List Nat} {ps:List (Nat × Nat)} {P:Program} {T:List (TypeId × TI)} {D:Ords} {fn:Func} {L:Nat→Act→World→Prop} {n:Nat} {Q:SV→List MB→Prop}
theorem ztb (hR:Ends w0 own ps n Q R) (hE:Env.Ok ⟨P,T,D,fn,w0,own,ps,L⟩) (l:List Nat) (M:List MB) {r s t:ResultVar} (hr:fn.results=#[r,s,t]) {k:List It} {tm:PT} {mem:List MB} {v u y:SV} (x:SV) (hv:resE std T tm mem r=some v) (hu:resE std T tm mem s=some u) (hy:resE std T tm mem t=some y) (h1:(tvO v).sv=v) (h2:(tvO u).sv=u) (h3:(tvO y).sv=y) (hvv:SV.tup [tvO v,tvO u,tvO y]=mapV (ren1 (pi l)) x) (hlen:M.length=l.length) (hd:distinct l=true) (hk:keeps n l=true) (hps:ps.length=n) (hat:atR (pi l) mem 0 M) (hok:okM1 M.length M=true) (hle:n≤M.length) (hvok:okV1 M.length x=true) (hQ:Q x M):Good ⟨P,T,D,fn,w0,own,ps,L⟩ R ⟨.ret::k,tm,mem⟩ :=
 zew hE hr hv hu hy h1 h2 h3 fun ρ w hρ hS=>by rw [hvv];exact zhm hR l M hlen hd hk hps hat hok hle hvok hQ ρ w hρ hS
end
end Eng
theorem ztf (Rc T:List UInt8) (hr:Rc.length≤65536) (n:Nat) (hn:((frameB sumN Rc)++T).length=n) (hb:n≤1000000):TriM Tryz.prog 306 [.one (.rsl 0 n),.one (.val (.int .i64 8))] ([.rs n (bV ((frameB sumN Rc)++T))]) (.tup [.one (.gsl 1 Rc.length),.one (.val (.int .i64 ((frameB sumN Rc).length:Int))),.one (.val (.int .i64 0))]) [.rs n (bV ((frameB sumN Rc)++T)),.grow 5 1 Rc.length (bV Rc)]:=by
 obtain ⟨A,hA,FG⟩:=aF;obtain ⟨V,hV⟩:=nm (bV ((frameB sumN Rc)++T));obtain ⟨RV,hRV⟩:=nm (bV Rc);obtain ⟨m,hm⟩:=nm (Rc.length);obtain ⟨mi,hmi⟩:=nm ((Rc.length:Int));obtain ⟨C,hC⟩:=nm (le8 8 (sumN Rc)++(Rc++T));obtain ⟨at0,hat0⟩:=nm ((encI Rc.length).length);obtain ⟨ATI,hATI⟩:=nm (((encI Rc.length).length:Int));obtain ⟨EN,hEN⟩:=nm (((frameB sumN Rc).length:Int));obtain ⟨BG,hBG⟩:=nm (((encI Rc.length).length:Int)+8)
 obtain ⟨AI,hAI⟩:=nm (fun i:Nat=>(((encI Rc.length).length+i:Nat):Int))
 obtain ⟨X,hX⟩:=nm (fun k:Nat=>(((le8 8 (sumN Rc)++(Rc++T)).getD k 0).toNat:Int))
 obtain ⟨U,hU⟩:=nm (fun k:Nat=>((accE (le8 8 (sumN Rc)++(Rc++T)) k:Nat):Int))
 obtain ⟨SP,hSP⟩:=nm (sumP Rc);obtain ⟨q1,hq1⟩:=nm ((n:Int)-((encI Rc.length).length:Int));obtain ⟨q2,hq2⟩:=nm (8+(Rc.length:Int))
 have hB:frameB sumN Rc++T=encI Rc.length++C:=by rw [hC,frameB];simp [List.append_assoc]
 have hl1:n=at0+8+m+T.length:=by rw [←hn,hB,hC,hat0,hm];simp [zgt];omega
 have hl2:(frameB sumN Rc).length=at0+8+m:=by rw [frameB,hat0,hm];simp [zgt];omega
 have tt:TriP Tryz.prog 334 [.one (.rsl 0 n)] [.rs n V] (.tup [.one (.val (.int .i64 mi)),.one (.val (.int .i64 ATI)),.one (.val (.int .i64 0))]):=by
  rw [hV,hmi,hATI]
  exact zht _ n hn hb _ _ (by rw [hB];exact zmd ⟨by omega,by omega⟩ C)
 have ts:=zss Rc Rc.length rfl (by omega)
 simp only [←hRV,←hm,←hSP] at ts;simp only [←hV,←hRV,←hEN,←hm]
 have l1:∀ i:Nat,A.lt (Int.ofNat i) 8=true→i<8:=by rw [hA];intro i h2;have h9:(i:Int)<8:=of_decide_eq_true h2;omega
 have l2:∀ i:Nat,A.lt (Int.ofNat i) 8=true→A.add .i64 (Int.ofNat i) 1=Int.ofNat (i+1):=by intro i hi;have:=l1 i hi;rw [hA];exact (wrap64 (by simp;omega) (by simp;omega)).trans (by simp)
 have l4:∀ i:Nat,i≤8→A.lt (Int.ofNat i) 8=false→A.eq (U i) SP=true:=by
  rw [hA];intro i h1 h2;have h9:¬ (i:Int)<8:=of_decide_eq_false h2
  obtain rfl:i=8:=by omega
  have h3:accE (le8 8 (sumN Rc)++(Rc++T)) 8=sumN Rc:=by rw [zqz _ _ 8 (by omega)];exact Nat.mod_eq_of_lt (qbo Rc)
  rw [hU,hSP];dsimp only;rw [h3,zvj];simp [std]
 have gA:∀ i:Nat,A.lt (Int.ofNat i) 8=true→A.add .i64 ATI (Int.ofNat i)=AI i:=by
  intro i hi;have:=l1 i hi;rw [hA,hATI,hAI];exact (wrap64 (by simp;omega) (by simp;omega)).trans (by simp)
 have g2:∀ i:Nat,A.lt (Int.ofNat i) 8=true→A.inb (AI i) n=true:=by
  intro i hi;have:=l1 i hi;rw [hA,hAI];simp [std];omega
 have g3:∀ i:Nat,A.lt (Int.ofNat i) 8=true→A.get V (A.idx 0 (AI i) 1) 0=some (.int .u8 (X i)):=by
  intro i hi;have h1:=l1 i hi
  have h2:=getB (frameB sumN Rc++T) hn (i:=at0+i) (by omega)
  have h3:(frameB sumN Rc++T).getD (at0+i) 0=(le8 8 (sumN Rc)++(Rc++T)).getD i 0:=by
   rw [hB,hC,hat0,List.getD_eq_getElem?_getD,List.getD_eq_getElem?_getD,List.getElem?_append_right (by omega)]
   simp
  rw [h3] at h2;rw [hA,hV,hAI,hX];rw [hat0] at h2;exact h2
 have g4:∀ i:Nat,A.lt (Int.ofNat i) 8=true→A.bor .u64 (U i) (A.shl .u64 (A.conv .u64 (X i)) (A.conv .u64 (A.mul .i64 8 (Int.ofNat i))))=U (i+1):=by
  intro i hi;have h1:=l1 i hi;rw [hA,hU,hX];exact zxv _ h1
 have u0:U 0=0:=by rw [hU];rfl
 have hdr:((frameB sumN Rc++T).drop (at0+8)).take m=Rc:=by
  rw [hB,hC,hat0,hm,←List.drop_drop,List.drop_left' rfl]
  have:=List.drop_left (l₁:=le8 8 (sumN Rc)) (l₂:=Rc++T)
  rw [zgt] at this;rw [this,List.take_left' rfl]
 have f0:∀ i:Nat,A.le 0 (A.conv .u64 (A.mul .i64 8 (Int.ofNat i)))=true:=by
  rw [hA];intro i;simp [std];rw [wrapU'];omega
 have f1:A.eq 0 0=true:=by rw [hA];rfl
 have f2:A.lt mi 0=false:=by
  rw [hA]
  rw [hmi];exact decide_eq_false (by show ¬ (Rc.length:Int)<0;omega)
 have f3:A.lt 65536 mi=false:=by
  rw [hA]
  rw [hmi];exact decide_eq_false (by show ¬ (65536:Int)<(Rc.length:Int);omega)
 have f4:A.sub .i64 (A.len n) ATI=q1:=by
  rw [hA]
  rw [hq1,hATI];exact wrap64 (by show (-9223372036854775808:Int)≤(n:Int)-_;omega) (by show (n:Int)-_≤9223372036854775807;omega)
 have f5:A.add .i64 8 mi=q2:=by
  rw [hA]
  rw [hq2,hmi];exact wrap64 (by omega) (by omega)
 have f6:A.lt q1 q2=false:=by
  rw [hA]
  rw [hq1,hq2];exact decide_eq_false (by show ¬ (n:Int)-((encI Rc.length).length:Int)<8+(Rc.length:Int);omega)
 have f7:A.add .i64 ATI 8=BG:=by
  rw [hA]
  rw [hBG,hATI];exact wrap64 (by omega) (by omega)
 have f8:A.add .i64 BG mi=EN:=by
  rw [hA]
  rw [hBG,hmi,hEN,hl2];refine (wrap64 ?_ ?_).trans ?_<;>(try simp only [hm,hat0] at *)<;>omega
 have f9:A.cutok BG EN n=true:=by
  rw [hA];rw [hBG,hEN,hl2];simp [std];omega
 have f10:A.cutn BG EN=m:=by
  rw [hA];rw [hBG,hEN,hl2];simp [std];omega
 have f11:A.tak V (A.idx 0 BG 1) m 1=RV:=by
  rw [hA]
  rw [hBG,hV,hRV];have h1:(((encI Rc.length).length:Int)+8).toNat=at0+8:=by omega
  show (((bV (frameB sumN Rc++T)).drop (0+(((encI Rc.length).length:Int)+8).toNat * 1)).take (m * 1))=bV Rc
  rw [h1,Nat.mul_one,Nat.mul_one,Nat.zero_add,bV,←List.map_drop,←List.map_take,hdr];rfl
 have f12:A.rows RV 0 m 1=some RV:=by
  rw [hA];rw [hRV];exact zia Rc hm.symm
 have f13:A.fits 0 m=true:=by
  rw [hA];simp [std];omega
 change Hid _ at hA hV hRV hm hmi hC hat0 hATI hEN hBG hAI hX hU hSP hq1 hq2 hB hl1 hl2 hdr hn hb hr
 refine zad (D:=ords306) (fnO zmi Tryz.func306) 71 (fun w0 own ps R hpl hR kE=>?_)
 refine kN ?_
 repeat' (conv=>arg 3;try cbv);first
  | (((with_reducible refine kL ?_);refine zau 0 (α:={ i:Nat // i≤8 }) [11,40,41,42,43,44,45,46,47,48,49,50,51,52,53,54,55] (fun x=>[(10,.one (.val (.int .u64 (U x.1)))),(39,.one (.val (.int .i64 (Int.ofNat x.1))))]) (fun x=>8-x.1) ⟨0,Nat.zero_le _⟩ (by dsimp only;simp only [u0]<;>cbv<;>try simp) (fun x y hy=>zb1 hy trivial trivial) rfl (fun x L' hok hL1 hL2=>?_);obtain ⟨i,hi⟩:=x;dsimp only;refine kN ?_))
  | (((with_reducible refine kA ?_);have hlt:=l1 i (by assumption);have hstep:=l2 i (by assumption);have hU4:=g4 i (by assumption);refine zao ⟨rfl,rfl,rfl⟩ hok hL2 ⟨i+1,hlt⟩ (show 8-(i+1)<8-i by omega) (by dsimp only;(try simp only [hstep,hU4])<;>cbv<;>try simp) rfl))
  | ((with_reducible refine kC ?_);(first|refine nP [.same 0] tt ?_|refine nP [.rd (.gsl 2 m)] ts ?_))
  | ((with_reducible refine kG ?_);refine ztb hR ⟨zmi,zaa⟩ [0,2] ([.rs n V,.grow 5 1 m RV]) (by rfl) (.tup [.one (.gsl 1 m),.one (.val (.int .i64 EN)),.one (.val (.int .i64 0))]) (by rfl) (by rfl) (by rfl) (by rfl) (by rfl) (by rfl) (by rfl) (by rfl) (by rfl) (by rfl) hpl ?_ (by rfl) (by simp) (by rfl) ⟨rfl,rfl⟩;exact ⟨.inr rfl,.inr rfl,trivial⟩)
  | simp only [*]
  | (split<;>(rename_i hsp;try simp only [FG] at hsp))
theorem qc6 (L:List Int) {i:Nat} (hi:i<L.length):(Rs L i).length=(encI (L.getD i 0)).length+(Rs L (i+1)).length:=by
 have h1:=zqt L i
 have h2:=zqt L (i+1)
 rw [zpi hi] at h2;omega
theorem qby (L:List Int) {i:Nat} (hi:i<L.length):(Rs L i).drop (encI (L.getD i 0)).length=Rs L (i+1):=by
 rw [←zpd L i,←zpd L (i+1),List.drop_drop,zpi hi]
theorem zda (L:List Int) (hL:∀ x∈L,I6 x) (hb:(L.flatMap encI).length≤1000000) {i:Nat} (hi:i<L.length) :
 std.cutok (((encI (L.getD i 0)).length:Nat):Int) (std.len (Rs L i).length) (Rs L i).length=true∧std.cutn (((encI (L.getD i 0)).length:Nat):Int) (std.len (Rs L i).length)=(Rs L (i+1)).length ∧
 std.tak (bV (Rs L i)) (std.idx 0 (((encI (L.getD i 0)).length:Nat):Int) 1) (Rs L (i+1)).length 1=bV (Rs L (i+1)) ∧
 TriP Tryz.prog 334 [.one (.rsl 0 (Rs L i).length)] [.rs (Rs L i).length (bV (Rs L i))] (.tup [.one (.val (.int .i64 (L.getD i 0))),.one (.val (.int .i64 (((encI (L.getD i 0)).length:Nat):Int))),.one (.val (.int .i64 0))]):=by
 have h1:=qc6 L hi
 have h2:=zqt L i
 refine ⟨decide_eq_true ⟨by omega,by show (((encI (L.getD i 0)).length:Nat):Int)≤((Rs L i).length:Int);omega,by show ((Rs L i).length:Int)≤((Rs L i).length:Int);omega⟩,by show (((Rs L i).length:Nat):Int).toNat-(((encI (L.getD i 0)).length:Nat):Int).toNat=_;omega,?_,zht _ _ rfl (by omega) _ _ (zvq hL hi)⟩
 show (((bV (Rs L i)).drop (0+(((encI (L.getD i 0)).length:Nat):Int).toNat * 1)).take ((Rs L (i+1)).length * 1))=_
 rw [Int.toNat_natCast,Nat.mul_one,Nat.mul_one,Nat.zero_add,bV,←List.map_drop,qby L hi,List.take_of_length_le (by simp)]
 rfl
theorem zj9:Goes Tryz.prog 336:=zbe Tryz.func336 (by kernel_rfl) (by kernel_rfl)
def ordsTk:Ords:=[(300,[],0,[0]),(4,[(0,false),(1,false),(2,false),(4,false),(3,true),(5,true),(6,true)],7,[])]
theorem zl8 (t v:Int) (lg:List (Int × EnD)) (D:List UInt8) (du:Int) (a b:Int) (h1:0≤a∧a≤1073741824) (h2:-1≤b∧b<5) (h3:t≤a) (h4:t=a→v=-1∨v=b):TriM Tryz.prog 307 [.one (.ptr 0 0 0),.one (.rsl 4 (Rec.term a b).bytes.length)] (jB t v lg.length (logV lg) D.length (bV D) du++[.rs (Rec.term a b).bytes.length (bV (Rec.term a b).bytes)]) (vB true) (jB a b lg.length (logV lg) D.length (bV D) du++[.rs (Rec.term a b).bytes.length (bV (Rec.term a b).bytes)]):=by
 obtain ⟨A,hA,FG⟩:=aF
 have tj:=zpr t v lg D du a b h1 h2 h3 h4
 have hR0:(Rec.term a b).bytes=Rs ([1,a,b]) 0:=by (rw [←recT];rfl)
 rw [hR0] at *
 have hL:∀ x∈([1,a,b]:List Int),I6 x:=by (simp only [List.mem_cons,List.not_mem_nil,or_false,forall_eq_or_imp,forall_eq];exact ⟨i6s (by omega),i6s (by omega),i6s (by omega)⟩)
 have hbb:(([1,a,b]:List Int).flatMap encI).length≤1000000:=by have h1:=zco ([1,a,b]);have h2:([1,a,b]:List Int).length≤20:=(by simp [EnD.list]);omega
 obtain ⟨c0a,c0b,c0c,t0⟩:=zda ([1,a,b]) hL hbb (i:=0) (by simp)
 rw [show ([1,a,b]:List Int).getD 0 0=1 from rfl] at c0a c0b c0c t0
 rw [←hA] at c0a c0b c0c
 obtain ⟨c1a,c1b,c1c,t1⟩:=zda ([1,a,b]) hL hbb (i:=1) (by simp)
 rw [show ([1,a,b]:List Int).getD 1 0=a from rfl] at c1a c1b c1c t1
 rw [←hA] at c1a c1b c1c
 obtain ⟨c2a,c2b,c2c,t2⟩:=zda ([1,a,b]) hL hbb (i:=2) (by simp)
 rw [show ([1,a,b]:List Int).getD 2 0=b from rfl] at c2a c2b c2c t2
 rw [←hA] at c2a c2b c2c;obtain ⟨N0,hN0⟩:=nm ((Rs ([1,a,b]) 0).length);obtain ⟨N1,hN1⟩:=nm ((Rs ([1,a,b]) 1).length);obtain ⟨N2,hN2⟩:=nm ((Rs ([1,a,b]) 2).length);obtain ⟨N3,hN3⟩:=nm ((Rs ([1,a,b]) 3).length);obtain ⟨V0,hV0⟩:=nm (bV (Rs ([1,a,b]) 0));obtain ⟨V1,hV1⟩:=nm (bV (Rs ([1,a,b]) 1));obtain ⟨V2,hV2⟩:=nm (bV (Rs ([1,a,b]) 2));obtain ⟨V3,hV3⟩:=nm (bV (Rs ([1,a,b]) 3));obtain ⟨K0,hK0⟩:=nm ((((encI (1)).length:Nat):Int));obtain ⟨K1,hK1⟩:=nm ((((encI (a)).length:Nat):Int));obtain ⟨K2,hK2⟩:=nm ((((encI (b)).length:Nat):Int));obtain ⟨nl,hnl⟩:=nm (lg.length);obtain ⟨LV,hLV⟩:=nm (logV lg);obtain ⟨nd,hnd⟩:=nm (D.length);obtain ⟨DV,hDV⟩:=nm (bV D)
 have z3:A.eq (A.len N3) 0=true:=by rw [hA,hN3];rfl
 unfold jB at tj ⊢;dsimp only [List.cons_append,List.nil_append] at tj ⊢;simp only [←hN0,←hN1,←hN2,←hN3,←hV0,←hV1,←hV2,←hV3,←hK0,←hK1,←hK2,←hnl,←hLV,←hnd,←hDV] at *;change Hid _ at hN0 hN1 hN2 hN3 hV0 hV1 hV2 hV3 hK0 hK1 hK2 hnl hLV hnd hDV
 have f0:A.eq 0 0=true:=by rw [hA];rfl
 have f1:A.eq 1 1=true:=by rw [hA];rfl
 change Hid _ at hA hR0 hL hbb
 refine zad (D:=ords307) (fnO zdb Tryz.func307) 85 (fun w0 own ps R hpl hR kE=>?_)
 refine kN ?_
 repeat' (conv=>arg 3;try cbv);first
  | (((with_reducible show Eng.Good _ _ (Eng.St.mk (Eng.It.call 336 _ _::_) _ _));refine zi0 ⟨zdb,zaa⟩ (D':=ordsTk) (c:=bodyOf Tryz.f336) (n:=400) Tryz.func336 rfl zj9 (show codeChk ordsTk (bodyOf Tryz.f336)=true by decide +kernel) rfl (fun ps1 R1 hps1 hR1=>?_);rw [←hA.out]))
  | ((with_reducible refine kC ?_);(first|refine nP [.rd (.rsl 4 N0)] t0 ?_|refine nP [.rd (.rsl 5 N1)] t1 ?_|refine nP [.rd (.rsl 6 N2)] t2 ?_|refine nM [.same 0,.same 1,.same 2,.same 3] tj ?_))
  | ((with_reducible refine kG ?_);first|(refine zew ⟨zdb,zaa⟩ (by rfl) (by rfl) (by rfl) (by rfl) (by rfl) (by rfl) (by rfl) (fun ρ w hρ hS=>hR1 _ _ (zb0 rfl) (Nat.le_of_ble_eq_true rfl) True.intro ?_ ρ w hρ hS);clear hR1 hps1;refine kN ?_;conv=>arg 3;cbv)|(refine kO1 hR 5 ⟨?_,by rfl⟩))
  | simp only [FG,f0,f1,c0a,c0b,c0c,c1a,c1b,c1c,c2a,c2b,c2c,z3, *]
  | (split<;>(rename_i hsp;try simp only [FG] at hsp))
 all_goals (first|rfl|(simp only [FG,f0];first|done|rfl))
theorem zl9 (t v:Int) (lg:List (Int × EnD)) (D:List UInt8) (du:Int) (a:Int) (e:EnD) (tsh:ShapeOk e) (h6:∀ x∈e.list,I6 x) (h1:1≤a∧a≤1073741824) (h2:a≤t) (h3:(atJ lg (lg.length-1)).1≤a) (h4:lg.length<4096):TriM Tryz.prog 307 [.one (.ptr 0 0 0),.one (.rsl 4 (Rec.ent a e).bytes.length)] (jB t v lg.length (logV lg) D.length (bV D) du++[.rs (Rec.ent a e).bytes.length (bV (Rec.ent a e).bytes)]) (vB true) [.own 285 [.ptr 1 0 0,.val (iv t),.val (iv v),.gsl 5 (lg++[(a,e)]).length],.own 309 [.gsl 3 D.length,.val (iv du)],.dead,.grow 5 1 D.length (bV D),.rs (Rec.ent a e).bytes.length (bV (Rec.ent a e).bytes),.grow 270 10 (lg++[(a,e)]).length (logV (lg++[(a,e)]))]:=by
 obtain ⟨A,hA,FG⟩:=aF
 have tj:=zpt t v lg D du a e tsh h1 h2 h3 h4
 have te:=zth e tsh h6 (entB e).length rfl
 have hle:(lg++[(a,e)]).length=lg.length+1:=by simp
 rw [←hle] at tj
 have hR0:(Rec.ent a e).bytes=Rs ((2::a::e.list)) 0:=by (rw [←recE];simp [entB,Rs])
 rw [hR0] at *
 have hL:∀ x∈((2::a::e.list):List Int),I6 x:=by (intro x hx;rcases List.mem_cons.1 hx with rfl|hx;exact i6s (by omega);rcases List.mem_cons.1 hx with rfl|hx;exact i6s (by omega);exact h6 x hx)
 have hbb:(((2::a::e.list):List Int).flatMap encI).length≤1000000:=by have h1:=zco ((2::a::e.list));have h2:((2::a::e.list):List Int).length≤20:=(by simp [EnD.list]);omega
 obtain ⟨c0a,c0b,c0c,t0⟩:=zda ((2::a::e.list)) hL hbb (i:=0) (by simp)
 rw [show ((2::a::e.list):List Int).getD 0 0=2 from rfl] at c0a c0b c0c t0
 rw [←hA] at c0a c0b c0c
 obtain ⟨c1a,c1b,c1c,t1⟩:=zda ((2::a::e.list)) hL hbb (i:=1) (by simp)
 rw [show ((2::a::e.list):List Int).getD 1 0=a from rfl] at c1a c1b c1c t1
 rw [←hA] at c1a c1b c1c
 rw [show entB e=Rs (2::a::e.list) 2 from rfl] at te
 obtain ⟨n2i,hn2i⟩:=nm (((Rs (2::a::e.list) 2).length:Int));obtain ⟨KL,hKL⟩:=nm ((lg++[(a,e)]).length);obtain ⟨WL,hWL⟩:=nm (logV (lg++[(a,e)]));obtain ⟨N0,hN0⟩:=nm ((Rs ((2::a::e.list)) 0).length);obtain ⟨N1,hN1⟩:=nm ((Rs ((2::a::e.list)) 1).length);obtain ⟨N2,hN2⟩:=nm ((Rs ((2::a::e.list)) 2).length);obtain ⟨V0,hV0⟩:=nm (bV (Rs ((2::a::e.list)) 0));obtain ⟨V1,hV1⟩:=nm (bV (Rs ((2::a::e.list)) 1));obtain ⟨V2,hV2⟩:=nm (bV (Rs ((2::a::e.list)) 2));obtain ⟨K0,hK0⟩:=nm ((((encI (2)).length:Nat):Int));obtain ⟨K1,hK1⟩:=nm ((((encI (a)).length:Nat):Int));obtain ⟨nl,hnl⟩:=nm (lg.length);obtain ⟨LV,hLV⟩:=nm (logV lg);obtain ⟨nd,hnd⟩:=nm (D.length);obtain ⟨DV,hDV⟩:=nm (bV D)
 have z3:A.eq n2i (A.len N2)=true:=by rw [hA,hN2,hn2i];simp [std]
 simp only [←hn2i,←hKL,←hWL] at *;unfold jB at tj ⊢;dsimp only [List.cons_append,List.nil_append] at tj ⊢;simp only [←hN0,←hN1,←hN2,←hV0,←hV1,←hV2,←hK0,←hK1,←hnl,←hLV,←hnd,←hDV] at *;change Hid _ at hN0 hN1 hN2 hV0 hV1 hV2 hK0 hK1 hnl hLV hnd hDV hn2i hKL hWL;obtain ⟨kd,tk,tn,cl,ot,ep,wl,wh,nn⟩:=e;dsimp only at te tj
 have f0:A.eq 0 0=true:=by rw [hA];rfl
 have f1:A.eq 2 1=false:=by rw [hA];rfl
 have f2:A.eq 2 2=true:=by rw [hA];rfl
 change Hid _ at hA hR0 hL hbb hle
 refine zad (D:=ords307) (fnO zdb Tryz.func307) 85 (fun w0 own ps R hpl hR kE=>?_)
 refine kN ?_
 repeat' (conv=>arg 3;try cbv);first
  | (((with_reducible show Eng.Good _ _ (Eng.St.mk (Eng.It.call 336 _ _::_) _ _));refine zi0 ⟨zdb,zaa⟩ (D':=ordsTk) (c:=bodyOf Tryz.f336) (n:=400) Tryz.func336 rfl zj9 (show codeChk ordsTk (bodyOf Tryz.f336)=true by decide +kernel) rfl (fun ps1 R1 hps1 hR1=>?_);rw [←hA.out]))
  | ((with_reducible refine kC ?_);(first|refine nP [.rd (.rsl 4 N0)] t0 ?_|refine nP [.rd (.rsl 5 N1)] t1 ?_|refine nP [.rd (.rsl 6 N2)] te ?_|refine nM [.same 0,.same 1,.same 2,.same 3] tj ?_))
  | ((with_reducible refine kG ?_);first|(refine zew ⟨zdb,zaa⟩ (by rfl) (by rfl) (by rfl) (by rfl) (by rfl) (by rfl) (by rfl) (fun ρ w hρ hS=>hR1 _ _ (zb0 rfl) (Nat.le_of_ble_eq_true rfl) True.intro ?_ ρ w hρ hS);clear hR1 hps1;refine kN ?_;conv=>arg 3;cbv)|(refine kR1 hR [0,1,2,3,4,8] ⟨rfl,rfl⟩))
  | simp only [FG,f0,f1,f2,c0a,c0b,c0c,c1a,c1b,c1c,z3, *]
  | (split<;>(rename_i hsp;try simp only [FG] at hsp))
 all_goals (first|rfl|(simp only [FG,f0];first|done|rfl))
def RecGood (j:JSt):Rec→Prop
 | .term a b=>(0≤a∧a≤1073741824)∧(-1≤b∧b<5)∧j.term≤a∧(j.term=a→j.vote=-1∨j.vote=b)
 | .ent a e=>ShapeOk e∧(∀ x∈e.list,I6 x)∧(1≤a∧a≤1073741824)∧a≤j.term∧(atJ j.log (j.log.length-1)).1≤a∧j.log.length<4096
 | .cut _=>False
def stepJ (j:JSt):Rec→JSt
 | .term a b=>⟨a,b,j.log⟩
 | .ent a e=>⟨j.term,j.vote,j.log++[(a,e)]⟩
 | .cut _=>j
inductive Hist:List Rec→JSt→Prop
 | nil:Hist [] JSt.new
 | snoc {rs:List Rec} {j:JSt} {r:Rec}:Hist rs j→RecGood j r→Hist (rs++[r]) (stepJ j r)
theorem Hist.states {rs:List Rec} {j:JSt} (h:Hist rs j):∃ js:Nat→JSt,js 0=JSt.new∧js rs.length=j∧∀ i,i<rs.length→RecGood (js i) (rs.getD i (.cut 0))∧js (i+1)=stepJ (js i) (rs.getD i (.cut 0)):=by
 induction h with
 | nil=>exact ⟨fun _=>JSt.new,rfl,rfl,fun i hi=>by simp at hi⟩
 | @snoc rs j r h hr ih =>
   obtain ⟨js,h0,h1,h2⟩:=ih
   refine ⟨fun i=>if i≤rs.length then js i else stepJ j r,by simpa using h0,by simp only [List.length_append,List.length_singleton];exact if_neg (by omega),fun i hi=>?_⟩
   simp only [List.length_append,List.length_singleton] at hi
   rcases Nat.lt_or_ge i rs.length with h3|h3
   ·have h4:(rs++[r]).getD i (.cut 0)=rs.getD i (.cut 0):=by simp [List.getD_eq_getElem?_getD,List.getElem?_append_left h3]
    dsimp only
    rw [h4,if_pos (by omega),if_pos (by omega)]
    exact h2 i h3
   ·obtain rfl:i=rs.length:=by omega
    have h4:(rs++[r]).getD rs.length (.cut 0)=r:=by simp [List.getD_eq_getElem?_getD]
    dsimp only
    rw [h4,if_pos (Nat.le_refl _),if_neg (by omega),h1]
    exact ⟨hr,rfl⟩
theorem qb0 {j:JSt} {r:Rec} (h:RecGood j r):r.bytes.length≤110:=by
 cases r with
 | term a b=>have:=zco [1,a,b];rw [recT] at this;simpa using Nat.le_trans this (by simp)
 | ent a e =>
   have h1:=zco (2::a::e.list)
   have h2:(Rec.ent a e).bytes=(2::a::e.list).flatMap encI:=by rw [←recE];simp [entB]
   rw [h2]
   simpa [EnD.list] using h1
 | cut n=>exact h.elim
def recAt (rs:List Rec) (i:Nat):Rec:=rs.getD i (.cut 0)
def posAt (rs:List Rec) (i:Nat):Nat:=(diskB sumN (rs.take i)).length
theorem zkg (rs:List Rec) {i:Nat} (hi:i<rs.length):diskB sumN rs=diskB sumN (rs.take i)++(frameB sumN (recAt rs i).bytes++diskB sumN (rs.drop (i+1))):=by
 have:recAt rs i=rs[i]:=by simp [recAt,List.getD_eq_getElem?_getD,hi]
 have h2:rs=rs.take i++recAt rs i::rs.drop (i+1):=by rw [this,←List.drop_eq_getElem_cons hi,List.take_append_drop]
 conv=>lhs;rw [h2]
 unfold diskB;rw [List.flatMap_append,List.flatMap_cons]
theorem zzf (rs:List Rec) {i:Nat} (hi:i<rs.length):posAt rs (i+1)=posAt rs i+(frameB sumN (recAt rs i).bytes).length:=by
 have:recAt rs i=rs[i]:=by simp [recAt,List.getD_eq_getElem?_getD,hi]
 unfold posAt diskB;rw [this,List.take_add_one,List.getElem?_eq_getElem hi,List.flatMap_append,List.length_append];simp
theorem qb1 (rs:List Rec):posAt rs rs.length=(diskB sumN rs).length:=by unfold posAt;rw [List.take_length]
theorem zxc (rs:List Rec) {i:Nat} (hi:i<rs.length):(diskB sumN rs).drop (posAt rs i)=frameB sumN (recAt rs i).bytes++diskB sumN (rs.drop (i+1)):=by
 conv=>lhs;rw [zkg rs hi]
 exact List.drop_left' rfl
theorem qap (rs:List Rec) {i:Nat} (hi:i<rs.length):posAt rs i+(frameB sumN (recAt rs i).bytes++diskB sumN (rs.drop (i+1))).length=(diskB sumN rs).length:=by
 have:=congrArg List.length (zkg rs hi)
 rw [List.length_append] at this;unfold posAt;omega
theorem zpe (rs:List Rec) {i:Nat} (hi:i<rs.length) :
 std.lt ((posAt rs i:Nat):Int) (std.len (diskB sumN rs).length)=true:=by
 have h1:=qap rs hi
 have h2:=zsf sumN (recAt rs i).bytes
 rw [List.length_append] at h1
 exact decide_eq_true (by show ((posAt rs i:Nat):Int)<((diskB sumN rs).length:Int);omega)
theorem zrn (rs:List Rec) (j:JSt) (h:Hist rs j) (hb:(diskB sumN rs).length≤1000000) (keep:Int) (W:Nat→Prop):TriX Tryz.prog 258 [.one (.ptr 0 0 0),.one (.val (.int .i64 keep))] ([PJ (⟨j,diskB sumN rs,((diskB sumN rs).length:Int)⟩:JD) W]) (.tup []) (fun W'=>[PJ (⟨j,diskB sumN rs,((diskB sumN rs).length:Int)⟩:JD) W']):=by
 obtain ⟨A,hA,FG⟩:=aF;obtain ⟨js,hj0,hj1,hjs⟩:=h.states
 show TriX _ _ _ [pk (jB j.term j.vote j.log.length (logV j.log) (diskB sumN rs).length (bV (diskB sumN rs)) ((diskB sumN rs).length:Int)) W] _ (fun W'=>[pk (jB j.term j.vote j.log.length (logV j.log) (diskB sumN rs).length (bV (diskB sumN rs)) ((diskB sumN rs).length:Int)) W'])
 have tc:=zrq (diskB sumN rs) (diskB sumN rs).length rfl keep hb
 have tb:=zrr (diskB sumN rs) (diskB sumN rs).length rfl ((diskB sumN rs).length:Int) hb
 have tu:=zrp (diskB sumN rs) (diskB sumN rs).length rfl hb
 obtain ⟨nd,hnd⟩:=nm ((diskB sumN rs).length);obtain ⟨DV,hDV⟩:=nm (bV (diskB sumN rs));obtain ⟨ndI,hndI⟩:=nm (((diskB sumN rs).length:Int))
 obtain ⟨PO,hPO⟩:=nm (fun i:Nat=>((posAt rs i:Nat):Int))
 obtain ⟨NB,hNB⟩:=nm (fun i:Nat=>((diskB sumN rs).drop (posAt rs i)).length)
 obtain ⟨VB,hVB⟩:=nm (fun i:Nat=>bV ((diskB sumN rs).drop (posAt rs i)))
 obtain ⟨ML,hML⟩:=nm (fun i:Nat=>(recAt rs i).bytes.length)
 obtain ⟨RV,hRV⟩:=nm (fun i:Nat=>bV (recAt rs i).bytes)
 obtain ⟨FL,hFL⟩:=nm (fun i:Nat=>((frameB sumN (recAt rs i).bytes).length:Int))
 obtain ⟨TE,hTE⟩:=nm (fun i:Nat=>(js i).term)
 obtain ⟨VO,hVO⟩:=nm (fun i:Nat=>(js i).vote)
 obtain ⟨LN,hLN⟩:=nm (fun i:Nat=>(js i).log.length)
 obtain ⟨LG,hLG⟩:=nm (fun i:Nat=>logV (js i).log)
 obtain ⟨NL,hNL⟩:=nm (j.log.length);obtain ⟨LW,hLW⟩:=nm (logV j.log);obtain ⟨rn,hrn⟩:=nm (rs.length);obtain ⟨t,ht⟩:=nm (j.term);obtain ⟨v,hv⟩:=nm (j.vote)
 have kinds:∀ i,i≤rn→(A.lt ndI (A.len nd)=false∧PO i=ndI∧TE i=t∧VO i=v∧LN i=NL∧LG i=LW)∨(A.lt (PO i) (A.len nd)=true∧A.cutok (PO i) (A.len nd) nd=true∧A.cutn (PO i) (A.len nd)=NB i∧A.tak DV (A.idx 0 (PO i) 1) (NB i) 1=VB i∧A.add .i64 (PO i) (FL i)=PO (i+1)∧i<rn ∧
  TriM Tryz.prog 306 [.one (.rsl 0 (NB i)),.one (.val (.int .i64 8))] [.rs (NB i) (VB i)] (.tup [.one (.gsl 1 (ML i)),.one (.val (.int .i64 (FL i))),.one (.val (.int .i64 0))]) [.rs (NB i) (VB i),.grow 5 1 (ML i) (RV i)] ∧
  ((TriM Tryz.prog 307 [.one (.ptr 0 0 0),.one (.rsl 4 (ML i))] (jB (TE i) (VO i) (LN i) (LG i) nd DV ndI++[.rs (ML i) (RV i)]) (vB true) (jB (TE (i+1)) (VO (i+1)) (LN (i+1)) (LG (i+1)) nd DV ndI++[.rs (ML i) (RV i)])) ∨
   (TriM Tryz.prog 307 [.one (.ptr 0 0 0),.one (.rsl 4 (ML i))] (jB (TE i) (VO i) (LN i) (LG i) nd DV ndI++[.rs (ML i) (RV i)]) (vB true) [.own 285 [.ptr 1 0 0,.val (iv (TE (i+1))),.val (iv (VO (i+1))),.gsl 5 (LN (i+1))],.own 309 [.gsl 3 nd,.val (iv ndI)],.dead,.grow 5 1 nd DV,.rs (ML i) (RV i),.grow 270 10 (LN (i+1)) (LG (i+1))]))):=by
  intro i hi;rw [hrn] at hi
  rcases Nat.lt_or_ge i rs.length with h1|h1
  ·refine .inr ?_
   have p1:=zzf rs h1
   have p2:=qap rs h1
   have p3:=zxc rs h1
   have p4:=zpe rs h1
   obtain ⟨rg,rst⟩:=hjs i h1
   have hrl:(recAt rs i).bytes.length≤110:=qb0 rg
   have p5:((diskB sumN rs).drop (posAt rs i)).length+posAt rs i=(diskB sumN rs).length:=by rw [p3];omega
   rw [hA,hPO,hnd,hNB,hVB,hDV,hFL,hML,hRV,hTE,hVO,hLN,hLG,hndI,hrn];dsimp only
   refine ⟨p4,decide_eq_true ⟨by omega,by show ((posAt rs i:Nat):Int)≤((diskB sumN rs).length:Int);omega,by show ((diskB sumN rs).length:Int)≤((diskB sumN rs).length:Int);omega⟩,by show (((diskB sumN rs).length:Nat):Int).toNat-((posAt rs i:Nat):Int).toNat=_;omega,?_,?_,h1,?_,?_⟩
   ·show (((bV (diskB sumN rs)).drop (0+((posAt rs i:Nat):Int).toNat * 1)).take (((diskB sumN rs).drop (posAt rs i)).length * 1))=_
    rw [Int.toNat_natCast,Nat.mul_one,Nat.mul_one,Nat.zero_add,bV,←List.map_drop,List.take_of_length_le (by simp)]
    rfl
   ·rw [p1]
    exact (wrap64 (by omega) (by rw [List.length_append] at p2;omega)).trans (by omega)
   ·rw [p3]
    exact ztf _ _ (by omega) _ rfl (by omega)
   ·change RecGood (js i) (recAt rs i) at rg
    change js (i+1)=stepJ (js i) (recAt rs i) at rst;rw [rst]
    cases hk:recAt rs i with
    | term a b =>
      rw [hk] at rg;exact .inl (zl8 _ _ _ _ _ a b rg.1 rg.2.1 rg.2.2.1 rg.2.2.2)
    | ent a e =>
      rw [hk] at rg;exact .inr (zl9 _ _ _ _ _ a e rg.1 rg.2.1 rg.2.2.1 rg.2.2.2.1 rg.2.2.2.2.1 rg.2.2.2.2.2)
    | cut n=>rw [hk] at rg;exact rg.elim
  ·obtain rfl:i=rs.length:=by omega
   refine .inl ?_
   have p1:=qb1 rs
   rw [hA,hPO,hnd,hndI,hTE,hVO,hLN,hLG,ht,hv,hNL,hLW];dsimp only;rw [p1,hj1]
   exact ⟨decide_eq_false (by show ¬ ((diskB sumN rs).length:Int)<((diskB sumN rs).length:Int);omega),rfl,rfl,rfl,rfl,rfl⟩
 have e0:PO 0=0∧TE 0=0∧VO 0=-1∧LN 0=0∧LG 0=[]:=by rw [hPO,hTE,hVO,hLN,hLG];dsimp only;rw [hj0];exact ⟨rfl,rfl,rfl,rfl,rfl⟩
 obtain ⟨e1,e2,e3,e4,e5⟩:=e0;simp only [←hnd,←hDV,←ht,←hv,←hNL,←hLW] at *;simp only [←hndI] at *;clear h;change Hid _ at hnd hDV hndI hPO hNB hVB hML hRV hFL hTE hVO hLN hLG hNL hLW hrn ht hv hj0 hj1 hjs kinds
 have f0:A.eq 0 0=true:=by rw [hA];rfl
 replace hA:=kH hA
 refine zad (D:=ords258) (fnO zum Tryz.func258) 56 (fun w0 own ps R hpl hR kE=>?_)
 refine zah 0 rfl rfl (by nofun) (fun _=>?_)
 (conv=>arg 3;cbv)
 refine kN ?_
 repeat' (conv=>arg 3;try cbv);first
  | ((with_reducible refine kC ?_);(first|refine nM [.same 1,.same 3] tc ?_|refine nM [.same 1,.same 4] tb ?_|refine nM [.same 1,.same 4] tu ?_))
  | (((with_reducible refine kL ?_);refine zb7 0 3 270 10 (by rfl) (by rfl) (by rfl) ?_;(conv=>arg 3;cbv);refine zz2 5 (by rfl) (by rfl) ?_;(conv=>arg 3;cbv);refine zas 0 (α:={ i:Nat // i≤rn }) [6,7,8,29,30,31,32,33,34,35,36,37,38,39,40,41,42,43,44,45,46,47,48,49,50,51] (fun x=>[(5,.one (.val (.int .i64 (PO x.1))))]) (fun x=>[.own 285 [.ptr 1 0 0,.val (iv (TE x.1)),.val (iv (VO x.1)),.gsl 6 (LN x.1)],.own 309 [.gsl 4 nd,.val (iv ndI)],.grow 270 10 NL LW,.dead,.grow 5 1 nd DV,.dead,.grow 270 10 (LN x.1) (LG x.1),.rs nd DV]) (fun x=>rn-x.1) ⟨0,Nat.zero_le _⟩ (by dsimp only;simp only [e1]<;>cbv<;>try simp) (by dsimp only;simp only [e1,e2,e3,e4,e5]<;>rfl) (fun x=>rfl) (fun x y hy=>za0 hy trivial) rfl (fun x L' hL1 hL2=>?_);obtain ⟨i,hi⟩:=x;dsimp only;rcases kinds.out i hi with hend|⟨q1,q2,q3,q4,q5,hlt,tf,tr|tr⟩<;>(try unfold jB at tr)<;>(try dsimp only [List.cons_append,List.nil_append] at tr)<;>(refine kN ?_;conv=>arg 3;cbv)))
  | ((with_reducible refine kC ?_);(first|refine nM [.rd (.rsl 8 (NB i))] tf ?_|refine nM [.same 0,.same 1,.same 6,.same 4,.rd (.gsl 9 (ML i))] tr ?_|refine nM [.same 0,.same 1,.same 6,.same 4,.rd (.gsl 9 (ML i))] tr ?_))
  | (((with_reducible refine kA ?_);refine zal (l:=[0,1,2,3,4,5,6,7]) ⟨rfl,rfl,rfl⟩ hL2 ⟨i+1,hlt⟩ (show rn-(i+1)<rn-i by omega) rfl rfl (by rw [hpl];rfl) (zaj (n:=8) rfl) (zav (by cbv<;>trivial)) ⟨(by first|exact .inl rfl|exact .inr rfl),(by first|exact .inl rfl|exact .inr rfl),(by first|exact .inl rfl|exact .inr rfl),(by first|exact .inl rfl|exact .inr rfl),(by first|exact .inl rfl|exact .inr rfl),(by first|exact .inl rfl|exact .inr rfl),(by first|exact .inl rfl|exact .inr rfl),(by first|exact .inl rfl|exact .inr rfl),trivial⟩ (by dsimp only<;>(try simp only [q5])<;>cbv<;>try simp)))
  | (((with_reducible refine kA ?_);refine zal (l:=[0,1,2,3,4,5,10,7]) ⟨rfl,rfl,rfl⟩ hL2 ⟨i+1,hlt⟩ (show rn-(i+1)<rn-i by omega) rfl rfl (by rw [hpl];rfl) (zaj (n:=8) rfl) (zav (by cbv<;>trivial)) ⟨(by first|exact .inl rfl|exact .inr rfl),(by first|exact .inl rfl|exact .inr rfl),(by first|exact .inl rfl|exact .inr rfl),(by first|exact .inl rfl|exact .inr rfl),(by first|exact .inl rfl|exact .inr rfl),(by first|exact .inl rfl|exact .inr rfl),(by first|exact .inl rfl|exact .inr rfl),(by first|exact .inl rfl|exact .inr rfl),trivial⟩ (by dsimp only<;>(try simp only [q5])<;>cbv<;>try simp)))
  | (((with_reducible refine kZ ?_);refine kK 0 [1,6,8] (m:=fun _:Unit=>jB t v NL LW nd DV ndI) () (fun W'=>?_);refine zfi hR [0] ([pk (jB t v NL LW nd DV ndI) W']) (by rfl) (by rfl) (by rfl) (by rfl) hpl ⟨.inr rfl,trivial⟩ (by rfl) (by simp) ⟨rfl,W',rfl⟩))
  | simp only [*]
  | (split<;>(rename_i hsp;try simp only [FG] at hsp))
end Go.Proofs.YtpigpajgjdcagaaGreat
