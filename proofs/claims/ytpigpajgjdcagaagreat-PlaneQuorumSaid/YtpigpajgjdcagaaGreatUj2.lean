/- Parts. -/
import Derived.Test.YtpigpajgjdcagaaGreatUf
import Derived.Test.YtpigpajgjdcagaaGreatUh
import Derived.Test.YtpigpajgjdcagaaGreatUj1
import Derived.Test.YtpigpajgjdcagaaGreatUe
set_option linter.unusedSimpArgs false
set_option linter.unusedVariables false
set_option maxRecDepth 100000
set_option maxHeartbeats 60000000
namespace Go.Proofs.YtpigpajgjdcagaaGreat
open Go.RowKit
theorem zp5 (e:EnD):shapeP e=shapeB e:=by
 obtain ⟨k,tk,tn,cl,ot,ep,wl,wh,nn⟩:=e
 by_cases h:1≤k∧k≤16
 ·have hk:k=1∨k=2∨k=3∨k=4∨k=5∨k=6∨k=7∨k=8∨k=9∨k=10∨k=11∨k=12∨k=13∨k=14∨k=15∨k=16:=by omega
  rcases hk with rfl|rfl|rfl|rfl|rfl|rfl|rfl|rfl|rfl|rfl|rfl|rfl|rfl|rfl|rfl|rfl <;>
   (rw [Bool.eq_iff_iff];simp [shapeP,fitsP,formP,shapeB,rightD,placesD,numbersD,inB,uT,uC,uC',uO,uR,uE,uW,uV,uB,uM,uN];try omega)
 ·have h1:shapeB ⟨k,tk,tn,cl,ot,ep,wl,wh,nn⟩=false:=by
   have:inB k 1 16=false:=by simp [inB];omega
   simp [shapeB,rightD,this]
  rw [h1]
  have h2:(formP k 32 16 4 30).ok=false:=by
   unfold formP
   iterate 16 rw [if_neg (by omega)]
  simp [shapeP,fitsP,h2]
end Go.Proofs.YtpigpajgjdcagaaGreat
namespace Go.Proofs.YtpigpajgjdcagaaGreat
open Go.RowKit
open Go.RowKit Eng
def At (L:List Int) (i:Nat):Nat:=((L.take i).flatMap encI).length
def Rs (L:List Int) (i:Nat):List UInt8:=(L.drop i).flatMap encI
theorem zpi {L:List Int} {i:Nat} (hi:i<L.length):At L (i+1)=At L i+(encI (L.getD i 0)).length:=by
 unfold At;rw [znj L hi,List.length_append]
theorem zqs (L:List Int) (i:Nat):L.flatMap encI=(L.take i).flatMap encI++Rs L i:=by
 unfold Rs;rw [←List.flatMap_append,List.take_append_drop]
theorem zpd (L:List Int) (i:Nat):(L.flatMap encI).drop (At L i)=Rs L i:=by
 rw [zqs L i];exact List.drop_left' rfl
theorem zqt (L:List Int) (i:Nat):At L i+(Rs L i).length=(L.flatMap encI).length:=by
 rw [zqs L i,List.length_append];rfl
theorem zvq {L:List Int} (hL:∀ x∈L,I6 x) {i:Nat} (hi:i<L.length):takeI (Rs L i)=(0,L.getD i 0,(encI (L.getD i 0)).length):=by
 have h1:Rs L i=encI (L.getD i 0)++Rs L (i+1):=by
  unfold Rs;rw [List.drop_eq_getElem_cons hi,List.flatMap_cons];simp [List.getD_eq_getElem?_getD,hi]
 have h2:I6 (L.getD i 0):=by
  have:L.getD i 0=L[i]:=by simp [List.getD_eq_getElem?_getD,hi]
  rw [this];exact hL _ (List.getElem_mem hi)
 rw [h1];exact zmd h2 _
theorem zth (e:EnD) (tsh:ShapeOk e) (hL0:∀ x∈e.list,I6 x) (n:Nat) (hn:(entB e).length=n):TriP Tryz.prog 337 [.one (.rsl 0 n)] ([.rs n (bV (entB e))]) (.tup [.agg [.val (iv e.kind),.val (iv e.tick),.val (iv e.tenant),.val (iv e.cell),.val (iv e.other),.val (iv e.epoch),.val (iv e.lo),.val (iv e.hi),.val (iv e.n)],.one (.val (iv (n:Int))),.one (.val (iv 0))]):=by
 obtain ⟨A,hA,FG⟩:=aF;obtain ⟨kd,tk,tn,cl,ot,ep,wl,wh,nn⟩:=e;obtain ⟨L,hLe⟩:=nm (([kd,tk,tn,cl,ot,ep,wl,wh,nn]:List Int));obtain ⟨V,hV⟩:=nm (bV (entB ⟨kd,tk,tn,cl,ot,ep,wl,wh,nn⟩))
 obtain ⟨AT,hAT⟩:=nm (fun i:Nat=>((At L i:Nat):Int))
 obtain ⟨NI,hNI⟩:=nm (fun i:Nat=>(Rs L i).length)
 obtain ⟨VI,hVI⟩:=nm (fun i:Nat=>bV (Rs L i))
 obtain ⟨KI,hKI⟩:=nm (fun i:Nat=>(((encI (L.getD i 0)).length:Nat):Int))
 obtain ⟨ni,hni⟩:=nm ((n:Int));simp only [←hV,←hni]
 replace hL0:∀ x∈L,I6 x:=by rw [hLe];exact hL0
 have hl9:L.length=9:=by rw [hLe];rfl
 have hB:entB ⟨kd,tk,tn,cl,ot,ep,wl,wh,nn⟩=L.flatMap encI:=by rw [hLe];rfl
 have hbnd:n≤90:=by have:=zco L;rw [←hB,hn] at this;omega
 have hat:∀ i,At L i+(Rs L i).length=n:=fun i=>by rw [←hn,hB];exact zqt L i
 have hstep:∀ i,i<9→At L (i+1)=At L i+(encI (L.getD i 0)).length:=fun i hi=>zpi (by omega)
 have h90:(Rs L 9).length=0:=by unfold Rs;rw [List.drop_of_length_le (by omega)];rfl
 have htak:∀ i,((bV (entB ⟨kd,tk,tn,cl,ot,ep,wl,wh,nn⟩)).drop (At L i)).take (Rs L i).length=bV (Rs L i):=fun i=>by
  rw [hB,bV,←List.map_drop,zpd]
  exact List.take_of_length_le (by simp [bV])
 have tt:∀ i x,i<9→L.getD i 0=x→TriP Tryz.prog 334 [.one (.rsl 0 (NI i))] [.rs (NI i) (VI i)] (.tup [.one (.val (.int .i64 x)),.one (.val (.int .i64 (KI i))),.one (.val (.int .i64 0))]):=by
  intro i x hi hx
  have h1:=zvq hL0 (i:=i) (by omega)
  have h2:=hat i
  rw [hNI,hVI,hKI]
  try dsimp only
  rw [hx] at h1;rw [hx]
  exact zht _ _ rfl (by omega) _ _ h1
 have t0:=tt 0 kd (by omega) (by rw [hLe];rfl)
 have t1:=tt 1 tk (by omega) (by rw [hLe];rfl)
 have t2:=tt 2 tn (by omega) (by rw [hLe];rfl)
 have t3:=tt 3 cl (by omega) (by rw [hLe];rfl)
 have t4:=tt 4 ot (by omega) (by rw [hLe];rfl)
 have t5:=tt 5 ep (by omega) (by rw [hLe];rfl)
 have t6:=tt 6 wl (by omega) (by rw [hLe];rfl)
 have t7:=tt 7 wh (by omega) (by rw [hLe];rfl)
 have t8:=tt 8 nn (by omega) (by rw [hLe];rfl)
 unfold ShapeOk at tsh
 try dsimp only at tsh
 have f0:A.cutok 0 (A.len n) n=true:=by
  rw [hA];simp [std]
 have f1:A.cutn 0 (A.len n)=NI 0:=by
  rw [hA]
  have:=hat 0;simp only [hNI];simp [std,At] at *;omega
 have f2:A.tak V (A.idx 0 0 1) (NI 0) 1=VI 0:=by
  rw [hA]
  have:=htak 0;simp only [hAT,hNI,hVI,hV];simpa [std,At] using this
 have f3:A.add .i64 0 (KI 0)=(AT 1):=by
  rw [hA]
  have h1:At L 1=At L 0+(encI (L.getD 0 0)).length:=hstep 0 (by omega);have h2:=hat 0;have h3:=hat 1;simp only [hAT,hKI];exact (wrap64 (by omega) (by omega)).trans (by have:At L 0=0:=rfl;omega)
 have f4:A.lt 0 9=true∧A.add .i64 0 1=1:=by rw [hA];exact ⟨rfl,rfl⟩
 have f6:A.cutok (AT 1) (A.len n) n=true:=by
  rw [hA]
  have:=hat 1;simp only [hAT];simp [std];omega
 have f7:A.cutn (AT 1) (A.len n)=NI 1:=by
  rw [hA]
  have:=hat 1;simp only [hAT,hNI];simp [std];omega
 have f8:A.tak V (A.idx 0 (AT 1) 1) (NI 1) 1=VI 1:=by
  rw [hA]
  have:=htak 1;simp only [hAT,hNI,hVI,hV];simpa [std,At] using this
 have f9:A.add .i64 (AT 1) (KI 1)=(AT 2):=by
  rw [hA]
  have h1:At L 2=At L 1+(encI (L.getD 1 0)).length:=hstep 1 (by omega);have h2:=hat 1;have h3:=hat 2;simp only [hAT,hKI];exact (wrap64 (by omega) (by omega)).trans (by omega)
 have f10:A.lt 1 9=true∧A.add .i64 1 1=2:=by rw [hA];exact ⟨rfl,rfl⟩
 have f12:A.cutok (AT 2) (A.len n) n=true:=by
  rw [hA]
  have:=hat 2;simp only [hAT];simp [std];omega
 have f13:A.cutn (AT 2) (A.len n)=NI 2:=by
  rw [hA]
  have:=hat 2;simp only [hAT,hNI];simp [std];omega
 have f14:A.tak V (A.idx 0 (AT 2) 1) (NI 2) 1=VI 2:=by
  rw [hA]
  have:=htak 2;simp only [hAT,hNI,hVI,hV];simpa [std,At] using this
 have f15:A.add .i64 (AT 2) (KI 2)=(AT 3):=by
  rw [hA]
  have h1:At L 3=At L 2+(encI (L.getD 2 0)).length:=hstep 2 (by omega);have h2:=hat 2;have h3:=hat 3;simp only [hAT,hKI];exact (wrap64 (by omega) (by omega)).trans (by omega)
 have f16:A.lt 2 9=true∧A.add .i64 2 1=3:=by rw [hA];exact ⟨rfl,rfl⟩
 have f18:A.cutok (AT 3) (A.len n) n=true:=by
  rw [hA]
  have:=hat 3;simp only [hAT];simp [std];omega
 have f19:A.cutn (AT 3) (A.len n)=NI 3:=by
  rw [hA]
  have:=hat 3;simp only [hAT,hNI];simp [std];omega
 have f20:A.tak V (A.idx 0 (AT 3) 1) (NI 3) 1=VI 3:=by
  rw [hA]
  have:=htak 3;simp only [hAT,hNI,hVI,hV];simpa [std,At] using this
 have f21:A.add .i64 (AT 3) (KI 3)=(AT 4):=by
  rw [hA]
  have h1:At L 4=At L 3+(encI (L.getD 3 0)).length:=hstep 3 (by omega);have h2:=hat 3;have h3:=hat 4;simp only [hAT,hKI];exact (wrap64 (by omega) (by omega)).trans (by omega)
 have f22:A.lt 3 9=true∧A.add .i64 3 1=4:=by rw [hA];exact ⟨rfl,rfl⟩
 have f24:A.cutok (AT 4) (A.len n) n=true:=by
  rw [hA]
  have:=hat 4;simp only [hAT];simp [std];omega
 have f25:A.cutn (AT 4) (A.len n)=NI 4:=by
  rw [hA]
  have:=hat 4;simp only [hAT,hNI];simp [std];omega
 have f26:A.tak V (A.idx 0 (AT 4) 1) (NI 4) 1=VI 4:=by
  rw [hA]
  have:=htak 4;simp only [hAT,hNI,hVI,hV];simpa [std,At] using this
 have f27:A.add .i64 (AT 4) (KI 4)=(AT 5):=by
  rw [hA]
  have h1:At L 5=At L 4+(encI (L.getD 4 0)).length:=hstep 4 (by omega);have h2:=hat 4;have h3:=hat 5;simp only [hAT,hKI];exact (wrap64 (by omega) (by omega)).trans (by omega)
 have f28:A.lt 4 9=true∧A.add .i64 4 1=5:=by rw [hA];exact ⟨rfl,rfl⟩
 have f30:A.cutok (AT 5) (A.len n) n=true:=by
  rw [hA]
  have:=hat 5;simp only [hAT];simp [std];omega
 have f31:A.cutn (AT 5) (A.len n)=NI 5:=by
  rw [hA]
  have:=hat 5;simp only [hAT,hNI];simp [std];omega
 have f32:A.tak V (A.idx 0 (AT 5) 1) (NI 5) 1=VI 5:=by
  rw [hA]
  have:=htak 5;simp only [hAT,hNI,hVI,hV];simpa [std,At] using this
 have f33:A.add .i64 (AT 5) (KI 5)=(AT 6):=by
  rw [hA]
  have h1:At L 6=At L 5+(encI (L.getD 5 0)).length:=hstep 5 (by omega);have h2:=hat 5;have h3:=hat 6;simp only [hAT,hKI];exact (wrap64 (by omega) (by omega)).trans (by omega)
 have f34:A.lt 5 9=true∧A.add .i64 5 1=6:=by rw [hA];exact ⟨rfl,rfl⟩
 have f36:A.cutok (AT 6) (A.len n) n=true:=by
  rw [hA]
  have:=hat 6;simp only [hAT];simp [std];omega
 have f37:A.cutn (AT 6) (A.len n)=NI 6:=by
  rw [hA]
  have:=hat 6;simp only [hAT,hNI];simp [std];omega
 have f38:A.tak V (A.idx 0 (AT 6) 1) (NI 6) 1=VI 6:=by
  rw [hA]
  have:=htak 6;simp only [hAT,hNI,hVI,hV];simpa [std,At] using this
 have f39:A.add .i64 (AT 6) (KI 6)=(AT 7):=by
  rw [hA]
  have h1:At L 7=At L 6+(encI (L.getD 6 0)).length:=hstep 6 (by omega);have h2:=hat 6;have h3:=hat 7;simp only [hAT,hKI];exact (wrap64 (by omega) (by omega)).trans (by omega)
 have f40:A.lt 6 9=true∧A.add .i64 6 1=7:=by rw [hA];exact ⟨rfl,rfl⟩
 have f42:A.cutok (AT 7) (A.len n) n=true:=by
  rw [hA]
  have:=hat 7;simp only [hAT];simp [std];omega
 have f43:A.cutn (AT 7) (A.len n)=NI 7:=by
  rw [hA]
  have:=hat 7;simp only [hAT,hNI];simp [std];omega
 have f44:A.tak V (A.idx 0 (AT 7) 1) (NI 7) 1=VI 7:=by
  rw [hA]
  have:=htak 7;simp only [hAT,hNI,hVI,hV];simpa [std,At] using this
 have f45:A.add .i64 (AT 7) (KI 7)=(AT 8):=by
  rw [hA]
  have h1:At L 8=At L 7+(encI (L.getD 7 0)).length:=hstep 7 (by omega);have h2:=hat 7;have h3:=hat 8;simp only [hAT,hKI];exact (wrap64 (by omega) (by omega)).trans (by omega)
 have f46:A.lt 7 9=true∧A.add .i64 7 1=8:=by rw [hA];exact ⟨rfl,rfl⟩
 have f48:A.cutok (AT 8) (A.len n) n=true:=by
  rw [hA]
  have:=hat 8;simp only [hAT];simp [std];omega
 have f49:A.cutn (AT 8) (A.len n)=NI 8:=by
  rw [hA]
  have:=hat 8;simp only [hAT,hNI];simp [std];omega
 have f50:A.tak V (A.idx 0 (AT 8) 1) (NI 8) 1=VI 8:=by
  rw [hA]
  have:=htak 8;simp only [hAT,hNI,hVI,hV];simpa [std,At] using this
 have f51:A.add .i64 (AT 8) (KI 8)=ni:=by
  rw [hA]
  have h1:At L 9=At L 8+(encI (L.getD 8 0)).length:=hstep 8 (by omega);have h2:=hat 8;have h3:=hat 9;simp only [hAT,hKI,hni];exact (wrap64 (by omega) (by omega)).trans (by omega)
 have f52:A.lt 8 9=true∧A.add .i64 8 1=9∧A.lt 9 9=false∧A.eq 0 0=true:=by rw [hA];exact ⟨rfl,rfl,rfl,rfl⟩
 change Hid _ at hA hLe hV hAT hNI hVI hKI hni
 refine zad (D:=ords337) (fnO zme Tryz.func337) 58 (fun w0 own ps R hpl hR kE=>?_)
 refine kN ?_
 repeat' (conv=>arg 3;try cbv);first
  | (((with_reducible refine kL ?_);refine zbo 0 9 rfl (fun Ls hLs=>?_)))
  | (((with_reducible refine kA ?_);refine hLs _ _ _ _ ?_;refine kN ?_))
  | ((with_reducible refine kC ?_);(first|refine nP [.rd (.rsl 3 (NI 0))] t0 ?_|refine nP [.rd (.rsl 4 (NI 1))] t1 ?_|refine nP [.rd (.rsl 5 (NI 2))] t2 ?_|refine nP [.rd (.rsl 6 (NI 3))] t3 ?_|refine nP [.rd (.rsl 7 (NI 4))] t4 ?_|refine nP [.rd (.rsl 8 (NI 5))] t5 ?_|refine nP [.rd (.rsl 9 (NI 6))] t6 ?_|refine nP [.rd (.rsl 10 (NI 7))] t7 ?_|refine nP [.rd (.rsl 11 (NI 8))] t8 ?_|refine nP [] tsh ?_))
  | ((with_reducible refine kG ?_);refine zpq hR ⟨zme,zaa⟩ 1 (by rfl) (by rfl) (by rfl) (by rfl) (by rfl) (by rfl) (by rfl) (by rfl) (by rfl) (Nat.le_refl 1) (by rfl) ⟨?_,by rfl⟩)
  | simp only [*]
  | (split<;>(rename_i hsp;try simp only [FG] at hsp))
 all_goals (first|rfl|skip)
end Go.Proofs.YtpigpajgjdcagaaGreat
