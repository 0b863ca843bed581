/- Parts. -/
import Derived.Test.YtpigpajgjdcagaaGreatUr5
set_option linter.unusedSimpArgs false
set_option linter.unusedVariables false
set_option maxRecDepth 100000
set_option maxHeartbeats 60000000
namespace Go.Proofs.YtpigpajgjdcagaaGreat
open Go.RowKit Eng
namespace Eng
section
variable {E:Env} {R:Ending→World→Prop}
theorem ziy {body:Code} {k:List It} {tm:PT} {mem:List MB} (j N:Nat) (hk:plainJ j k=true)
 (h:∀ Ls:Nat→Nat→Act→World→Prop,(∀ n i,i≠j→Ls n i=E.L i)→(∀ (n:Nat) (ρ0':List (Nat × Nat)) (tm':PT) (mem':List MB),Good { E with L:=Ls n,ρ0:=ρ0' } R ⟨.code body::.again j::k,tm',mem'⟩→Good { E with L:=Ls (n+1),ρ0:=ρ0' } R ⟨.again j::k,tm',mem'⟩)→Good { E with L:=Ls (N+1) } R ⟨.again j::k,tm,mem⟩) :
 Good E R ⟨.code (.loop body)::k,tm,mem⟩:=by
 obtain ⟨Ls,hLs⟩:∃ Ls:Nat→Nat→Act→World→Prop,Ls=fun n i=>if i=j then (fun a w=>∀ b0,stripC b0=body→codeChk E.D b0=true→WPn E.P b0 (cont E.P E.D E.fn R E.L (fun _=>(0,0)) k) n a w) else E.L i:=⟨_,rfl⟩
 have hne:∀ n i,i≠j→Ls n i=E.L i:=fun n i hi=>by rw [hLs];simp [hi]
 have hj:∀ n,Ls n j=fun a w=>∀ b0,stripC b0=body→codeChk E.D b0=true→WPn E.P b0 (cont E.P E.D E.fn R E.L (fun _=>(0,0)) k) n a w:=fun n=>by rw [hLs];simp
 have hcp:∀ n ρ,cont E.P E.D E.fn R (Ls n) ρ k=cont E.P E.D E.fn R E.L (fun _=>(0,0)) k:=fun n ρ=>zbv (j:=j) (fun i hi=>hne n i hi) hk
 have hg:=h Ls hne fun n ρ0' tm' mem' hG ρ w a hρ hl H htm ha hit=>by
  show cont E.P E.D E.fn R (Ls (n+1)) ρ (.again j::k) .normal a w
  simp only [cont,Exit.then,hj];intro b0 hb hchk
  have:=hG ρ w a hρ hl H htm ha (zd9 trivial trivial (tl hit)) b0 hb hchk
  refine wp_mono this fun e a w he=>?_
  cases e with
  | normal =>
    have he':Ls n j a w:=he
    rw [hj] at he';exact he' b0 hb hchk
  | _ =>
    simp only [cont,Exit.then] at he ⊢;rw [hcp] at he;exact he
 intro ρ w a hρ hl H htm ha hit c0 hc0 hchk
 cases c0<;>simp only [stripC] at hc0<;>try (cases hc0;done)
 rename_i b0
 cases hc0
 have h1:=hg ρ w a hρ hl H htm ha (zbh trivial (tl hit))
 have h2:Ls (N+1) j a w:=h1
 rw [hj] at h2
 have h3:=zir (h2 b0 rfl hchk)
 refine wp_mono h3 fun e a w he=>?_
 have:=hcp (N+1) ρ
 have e1:cont E.P E.D E.fn R E.L ρ k=cont E.P E.D E.fn R E.L (fun _=>(0,0)) k:=zbv (j:=j) (fun i _=>rfl) hk
 rw [e1];exact he
end
end Eng
theorem zlz (k:K3) (ro cm vo x0 x1 x2 x3 x4 y0 y1 y2 y3 y4:Int) (X:JD) (W:Nat→Prop) (hlb:X.j.log.length≤4096) (hcm:0≤cm) (C:Nat→Int) (h0:∀ m:Nat,(m:Int)≤cm→C m=cm) (h1:∀ m:Nat,cm<m→(atJ X.j.log ((m-1:Nat):Int)).1≠X.j.term→C m=C (m-1)) (h2:∀ m:Nat,cm<m→(atJ X.j.log ((m-1:Nat):Int)).1=X.j.term→((m:Int)≤(s3 k y1 y0 y0)∨(m:Int)≤(s3 k y2 y2 y1))→C m=m) (h3:∀ m:Nat,cm<m→(atJ X.j.log ((m-1:Nat):Int)).1=X.j.term→¬ (m:Int)≤(s3 k y1 y0 y0)∧¬ (m:Int)≤(s3 k y2 y2 y1)→C m=C (m-1)):TriM Tryz.prog 251 [.one (.ptr 0 0 0)] ([rb (s3 k 0 1 2) 3 ro cm vo x0 x1 x2 x3 x4 y0 y1 y2 y3 y4,PJ X W]) (.tup []) [rb (s3 k 0 1 2) 3 ro (C X.j.log.length) vo x0 x1 x2 x3 x4 y0 y1 y2 y3 y4,PJ X W]:=by
 obtain ⟨A,hA,FG⟩:=aF;obtain ⟨O,hO⟩:=nm (oJ X W);change TriM _ _ _ [rb (s3 k 0 1 2) 3 ro cm vo x0 x1 x2 x3 x4 y0 y1 y2 y3 y4,.obj (oJ X W)] _ [rb (s3 k 0 1 2) 3 ro (C X.j.log.length) vo x0 x1 x2 x3 x4 y0 y1 y2 y3 y4,.obj (oJ X W)];rw [←hO]
 have tn:TriP _ _ _ [_,.obj (oJ X W)] _:=zbn (s3 k 0 1 2) 3 ro cm vo x0 x1 x2 x3 x4 y0 y1 y2 y3 y4 X W
 have tt:TriP _ _ _ [_,.obj (oJ X W)] _:=zam (s3 k 0 1 2) 3 ro cm vo x0 x1 x2 x3 x4 y0 y1 y2 y3 y4 X W
 rw [←hO] at tn tt;obtain ⟨len,hlen⟩:=nm (X.j.log.length);obtain ⟨CL,hCL⟩:=nm (C X.j.log.length)
 obtain ⟨M,hM⟩:=nm (fun m:Nat=>(m:Int))
 obtain ⟨Pd,hPd⟩:=nm (fun m:Nat=>m-1)
 obtain ⟨TT,hTT⟩:=nm (fun m:Nat=>(atJ X.j.log ((m-1:Nat):Int)).1)
 obtain ⟨jt,hjt⟩:=nm (X.j.term);obtain ⟨ln,hln⟩:=nm ((X.j.log.length:Int))
 have tat:∀ m:Nat,TriP Tryz.prog 293 [.one (.ptr 0 0 0),.one (.val (.int .i64 (M (Pd m))))] [.obj O] (.one (.val (.int .i64 (TT m)))):=by
  intro m;rw [hM,hPd,hTT,hO];exact zch X ((m-1:Nat):Int) W
 simp only [←hCL,←hln,←hjt] at tn tt ⊢
 have l0:∀ m:Nat,A.lt cm (M m)=true→cm<(m:Int):=by rw [hA,hM];intro m h;exact of_decide_eq_true h
 have l9:∀ m:Nat,A.lt cm (M m)=false→(m:Int)≤cm:=by rw [hA,hM];intro m h;have h9:¬ cm<(m:Int):=of_decide_eq_false h;omega
 have l2:∀ m:Nat,A.lt cm (M m)=true→m≤len→A.sub .i64 (M m) 1=M (Pd m):=by intro m h hm;have h9:=l0 m h;rw [hA,hM,hPd];exact (wrap64 (by show (-9223372036854775808:Int)≤(m:Int)-1;omega) (by show (m:Int)-1≤9223372036854775807;omega)).trans (by show (m:Int)-1=((m-1:Nat):Int);omega)
 have e1:M len=ln:=by rw [hM,hlen,hln]
 have q1:∀ m:Nat,A.lt cm (M m)=false→C m=CL→cm=CL:=by intro m h hc;rw [←hc];exact (h0 m (l9 m h)).symm
 have q2:∀ m:Nat,A.lt cm (M m)=true→A.eq (TT m) jt=false→C m=CL→C (Pd m)=CL:=by intro m h h' hc;rw [hA,hTT,hjt] at h';rw [←hc,hPd];exact (h1 m (l0 m h) (by simpa [std] using h')).symm
 have eqT:∀ m:Nat,A.eq (TT m) jt=true→(atJ X.j.log ((m-1:Nat):Int)).1=X.j.term:=by intro m h';rw [hA,hTT,hjt] at h';simpa [std] using h'
 have hv_23:∀ m:Nat,A.le (M m) (s3 k y1 y0 y0)=true→(m:Int)≤(s3 k y1 y0 y0):=by rw [hA,hM];intro m h;exact of_decide_eq_true h
 have hv_24:∀ m:Nat,A.le (M m) (s3 k y1 y0 y0)=false→¬ (m:Int)≤(s3 k y1 y0 y0):=by rw [hA,hM];intro m h;exact of_decide_eq_false h
 have hv_25:∀ m:Nat,A.le (M m) (s3 k y2 y2 y1)=true→(m:Int)≤(s3 k y2 y2 y1):=by rw [hA,hM];intro m h;exact of_decide_eq_true h
 have hv_26:∀ m:Nat,A.le (M m) (s3 k y2 y2 y1)=false→¬ (m:Int)≤(s3 k y2 y2 y1):=by rw [hA,hM];intro m h;exact of_decide_eq_false h
 have q3:∀ m:Nat,A.lt cm (M m)=true→A.eq (TT m) jt=true→A.le (M m) (s3 k y1 y0 y0)=true→C m=CL→M m=CL:=by intro m h h' hy hc;rw [←hc,h2 m (l0 m h) (eqT m h') (.inl (hv_23 m hy)),hM]
 have q4:∀ m:Nat,A.lt cm (M m)=true→A.eq (TT m) jt=true→A.le (M m) (s3 k y2 y2 y1)=true→C m=CL→M m=CL:=by intro m h h' hy hc;rw [←hc,h2 m (l0 m h) (eqT m h') (.inr (hv_25 m hy)),hM]
 have q5:∀ m:Nat,A.lt cm (M m)=true→A.eq (TT m) jt=true→A.le (M m) (s3 k y1 y0 y0)=false→A.le (M m) (s3 k y2 y2 y1)=false→C m=CL→C (Pd m)=CL:=by intro m h h' hy hz hc;rw [←hc,hPd];exact (h3 m (l0 m h) (eqT m h') ⟨hv_24 m hy,hv_26 m hz⟩).symm
 cases k
 all_goals dsimp only [s3,s6] at *
 all_goals
  unfold rb at *
  have f7:∀ l r,A.app l r=l++r:=by
   rw [hA];intro l r;rfl
  have f0:A.lt 0 3=true∧A.lt 1 3=true∧A.lt 2 3=true∧A.lt 3 3=false∧A.add .i64 0 1=1∧A.add .i64 1 1=2∧A.add .i64 2 1=3∧A.addn 1 1=2∧A.fits 0 1=true∧A.fits 1 1=true∧A.lt 0 1=true∧A.lt 1 1=false∧A.eq 0 0=true∧A.eq 0 1=false∧A.eq 0 2=false∧A.eq 1 0=false∧A.eq 1 1=true∧A.eq 1 2=false∧A.eq 2 0=false∧A.eq 2 1=false∧A.eq 2 2=true∧A.mul .i64 2 1=2∧A.mul .i64 2 2=4∧A.mul .i64 2 3=6∧A.lt 3 4=true∧A.lt 3 6=true∧A.lt 1 2=true∧A.lt 3 2=false:=by rw [hA];exact ⟨rfl,rfl,rfl,rfl,rfl,rfl,rfl,rfl,rfl,rfl,rfl,rfl,rfl,rfl,rfl,rfl,rfl,rfl,rfl,rfl,rfl,rfl,rfl,rfl,rfl,rfl,rfl,rfl⟩
  change Hid _ at hA hO hlen hCL hM hPd hTT hjt hln h0 h1 h2 h3
  refine zad (D:=ords251) (fnO zmn Tryz.func251) 61 (fun w0 own ps R hpl hR kE=>?_)
  refine kN ?_
  repeat' (conv=>arg 3;try cbv);first
   | (((with_reducible refine kL ?_);refine zau 0 (α:={ m:Nat // m≤len∧C m=CL }) [3,4,7,8,9,10,11,12,13,14,15,16,17,18,19,20,21,22,23,24,25,26,27,28,29,30,31,32,33,34,35,36,37,38,39,40,41,42,43,44,45,46,47,48,49,50,51,52,53,54,55,56,57,58,59,60,61] (fun x=>[(2,.one (.val (.int .i64 (M x.1))))]) (fun x=>x.1) ⟨len,Nat.le_refl _,by rw [hCL.out,hlen.out]⟩ (by cbv;simp [e1]) (fun x y hy=>za0 hy trivial) rfl (fun x L' hok hL1 hL2=>?_);obtain ⟨i,hi,hci⟩:=x;dsimp only;refine kN ?_))
   | (((with_reducible refine kL ?_);refine ziy 1 4 rfl (fun Ls hls hag=>?_);refine hag _ _ _ _ ?_;refine kN ?_))
   | (((with_reducible show Eng.Good _ _ (Eng.St.mk (Eng.It.again 1::_) _ _));refine hag _ _ _ _ ?_;refine kN ?_))
   | (((with_reducible show Eng.Good _ _ (Eng.St.mk (Eng.It.again 0::_) _ _));have hstep:=l2 i (by assumption) hi;have hpos:=l0 i (by assumption);refine zao ⟨rfl,rfl,rfl⟩ hok hL2 ⟨Pd i,(by rw [hPd.out];exact Nat.le_trans (Nat.sub_le i 1) hi),(by first|exact q2 i (by assumption) (by assumption) hci|exact q5 i (by assumption) (by assumption) (by assumption) (by assumption) hci)⟩ (show Pd i<i by rw [hPd.out];show i-1<i;omega) (by dsimp only;simp only [hstep];cbv;simp) rfl))
   | (((with_reducible show Eng.Good _ _ (Eng.St.mk (Eng.It.again 0::_) _ _));have hstep:=l2 i (by assumption) hi;have hpos:=l0 i (by assumption);refine zao ⟨rfl,rfl,rfl⟩ hok (fun a w hx=>Eq.mpr (congrFun (congrFun (hls _ 0 (by decide)) a) w) (hL2 a w hx)) ⟨Pd i,(by rw [hPd.out];exact Nat.le_trans (Nat.sub_le i 1) hi),(by first|exact q2 i (by assumption) (by assumption) hci|exact q5 i (by assumption) (by assumption) (by assumption) (by assumption) hci)⟩ (show Pd i<i by rw [hPd.out];show i-1<i;omega) (by dsimp only;simp only [hstep];cbv;simp) rfl))
   | ((with_reducible refine kC ?_);(first|refine nP [.same 0,.same 1] tn ?_|refine nP [.same 0,.same 1] tt ?_|refine nP [.same 1] ((tat _)) ?_))
   | ((with_reducible refine kG ?_);refine kO0 hR 2 ⟨rfl,?_⟩)
   | ((with_reducible refine kZ ?_);refine zbp hR 2 (by rfl) (by rfl) (by rfl) (Nat.le_refl 2) ⟨rfl,?_⟩)
   | simp only [*]
   | (split<;>(rename_i hsp;try simp only [FG] at hsp))
  all_goals (first|(rw [←q1 _ (by assumption) hci];rfl)|(rw [←q3 _ (by assumption) (by assumption) (by assumption) hci];rfl)|(rw [←q4 _ (by assumption) (by assumption) (by assumption) hci];rfl))
theorem zs3 (ro cm vo x0 x1 x2 x3 x4 y0 y1 y2 y3 y4:Int) (X:JD) (W:Nat→Prop) (hlb:X.j.log.length≤4096) (hcm:0≤cm) (C:Nat→Int) (h0:∀ m:Nat,(m:Int)≤cm→C m=cm) (h1:∀ m:Nat,cm<m→(atJ X.j.log ((m-1:Nat):Int)).1≠X.j.term→C m=C (m-1)) (h2:∀ m:Nat,cm<m→(atJ X.j.log ((m-1:Nat):Int)).1=X.j.term→C m=m):TriM Tryz.prog 251 [.one (.ptr 0 0 0)] ([rb (0) (1) ro cm vo x0 x1 x2 x3 x4 y0 y1 y2 y3 y4,PJ X W]) (.tup []) [rb (0) (1) ro (C X.j.log.length) vo x0 x1 x2 x3 x4 y0 y1 y2 y3 y4,PJ X W]:=by
 obtain ⟨A,hA,FG⟩:=aF;obtain ⟨O,hO⟩:=nm (oJ X W);change TriM _ _ _ [rb (0) (1) ro cm vo x0 x1 x2 x3 x4 y0 y1 y2 y3 y4,.obj (oJ X W)] _ [rb (0) (1) ro (C X.j.log.length) vo x0 x1 x2 x3 x4 y0 y1 y2 y3 y4,.obj (oJ X W)];rw [←hO]
 have tn:TriP _ _ _ [_,.obj (oJ X W)] _:=zbn 0 1 ro cm vo x0 x1 x2 x3 x4 y0 y1 y2 y3 y4 X W
 have tt:TriP _ _ _ [_,.obj (oJ X W)] _:=zam 0 1 ro cm vo x0 x1 x2 x3 x4 y0 y1 y2 y3 y4 X W
 rw [←hO] at tn tt;obtain ⟨len,hlen⟩:=nm (X.j.log.length);obtain ⟨CL,hCL⟩:=nm (C X.j.log.length)
 obtain ⟨M,hM⟩:=nm (fun m:Nat=>(m:Int))
 obtain ⟨Pd,hPd⟩:=nm (fun m:Nat=>m-1)
 obtain ⟨TT,hTT⟩:=nm (fun m:Nat=>(atJ X.j.log ((m-1:Nat):Int)).1)
 obtain ⟨jt,hjt⟩:=nm (X.j.term);obtain ⟨ln,hln⟩:=nm ((X.j.log.length:Int))
 have tat:∀ m:Nat,TriP Tryz.prog 293 [.one (.ptr 0 0 0),.one (.val (.int .i64 (M (Pd m))))] [.obj O] (.one (.val (.int .i64 (TT m)))):=by
  intro m;rw [hM,hPd,hTT,hO];exact zch X ((m-1:Nat):Int) W
 simp only [←hCL,←hln,←hjt] at tn tt ⊢
 have l0:∀ m:Nat,A.lt cm (M m)=true→cm<(m:Int):=by rw [hA,hM];intro m h;exact of_decide_eq_true h
 have l9:∀ m:Nat,A.lt cm (M m)=false→(m:Int)≤cm:=by rw [hA,hM];intro m h;have h9:¬ cm<(m:Int):=of_decide_eq_false h;omega
 have l2:∀ m:Nat,A.lt cm (M m)=true→m≤len→A.sub .i64 (M m) 1=M (Pd m):=by intro m h hm;have h9:=l0 m h;rw [hA,hM,hPd];exact (wrap64 (by show (-9223372036854775808:Int)≤(m:Int)-1;omega) (by show (m:Int)-1≤9223372036854775807;omega)).trans (by show (m:Int)-1=((m-1:Nat):Int);omega)
 have e1:M len=ln:=by rw [hM,hlen,hln]
 have q1:∀ m:Nat,A.lt cm (M m)=false→C m=CL→cm=CL:=by intro m h hc;rw [←hc];exact (h0 m (l9 m h)).symm
 have q2:∀ m:Nat,A.lt cm (M m)=true→A.eq (TT m) jt=false→C m=CL→C (Pd m)=CL:=by intro m h h' hc;rw [hA,hTT,hjt] at h';rw [←hc,hPd];exact (h1 m (l0 m h) (by simpa [std] using h')).symm
 have eqT:∀ m:Nat,A.eq (TT m) jt=true→(atJ X.j.log ((m-1:Nat):Int)).1=X.j.term:=by intro m h';rw [hA,hTT,hjt] at h';simpa [std] using h'
 have q3:∀ m:Nat,A.lt cm (M m)=true→A.eq (TT m) jt=true→C m=CL→M m=CL:=by intro m h h' hc;rw [←hc,h2 m (l0 m h) (eqT m h'),hM]
 unfold rb at *
 have f0:A.lt 0 3=true∧A.lt 1 3=true∧A.lt 2 3=true∧A.lt 3 3=false∧A.add .i64 0 1=1∧A.add .i64 1 1=2∧A.add .i64 2 1=3:=by rw [hA];exact ⟨rfl,rfl,rfl,rfl,rfl,rfl,rfl⟩
 have f7:∀ l r,A.app l r=l++r:=by
  rw [hA];intro l r;rfl
 have f8:A.addn 1 1=2∧A.fits 0 1=true∧A.fits 1 1=true∧A.lt 0 1=true∧A.lt 1 1=false∧A.eq 0 0=true∧A.eq 0 1=false∧A.eq 0 2=false∧A.eq 1 0=false∧A.eq 1 1=true∧A.eq 1 2=false∧A.eq 2 0=false∧A.eq 2 1=false∧A.eq 2 2=true∧A.mul .i64 2 1=2∧A.mul .i64 2 2=4∧A.mul .i64 2 3=6∧A.lt 3 4=true∧A.lt 3 6=true∧A.lt 1 2=true∧A.lt 3 2=false:=by rw [hA];exact ⟨rfl,rfl,rfl,rfl,rfl,rfl,rfl,rfl,rfl,rfl,rfl,rfl,rfl,rfl,rfl,rfl,rfl,rfl,rfl,rfl,rfl⟩
 change Hid _ at hA hO hlen hCL hM hPd hTT hjt hln h0 h1 h2
 refine zad (D:=ords251) (fnO zmn Tryz.func251) 61 (fun w0 own ps R hpl hR kE=>?_)
 refine kN ?_
 repeat' (conv=>arg 3;try cbv);first
  | (((with_reducible refine kL ?_);refine zau 0 (α:={ m:Nat // m≤len∧C m=CL }) [3,4,7,8,9,10,11,12,13,14,15,16,17,18,19,20,21,22,23,24,25,26,27,28,29,30,31,32,33,34,35,36,37,38,39,40,41,42,43,44,45,46,47,48,49,50,51,52,53,54,55,56,57,58,59,60,61] (fun x=>[(2,.one (.val (.int .i64 (M x.1))))]) (fun x=>x.1) ⟨len,Nat.le_refl _,by rw [hCL.out,hlen.out]⟩ (by cbv;simp [e1]) (fun x y hy=>za0 hy trivial) rfl (fun x L' hok hL1 hL2=>?_);obtain ⟨i,hi,hci⟩:=x;dsimp only;refine kN ?_))
  | (((with_reducible refine kL ?_);refine ziy 1 2 rfl (fun Ls hls hag=>?_);refine hag _ _ _ _ ?_;refine kN ?_))
  | (((with_reducible show Eng.Good _ _ (Eng.St.mk (Eng.It.again 1::_) _ _));refine hag _ _ _ _ ?_;refine kN ?_))
  | (((with_reducible show Eng.Good _ _ (Eng.St.mk (Eng.It.again 0::_) _ _));have hstep:=l2 i (by assumption) hi;have hpos:=l0 i (by assumption);refine zao ⟨rfl,rfl,rfl⟩ hok hL2 ⟨Pd i,(by rw [hPd.out];exact Nat.le_trans (Nat.sub_le i 1) hi),(by first|exact q2 i (by assumption) (by assumption) hci)⟩ (show Pd i<i by rw [hPd.out];show i-1<i;omega) (by dsimp only;simp only [hstep];cbv;simp) rfl))
  | (((with_reducible show Eng.Good _ _ (Eng.St.mk (Eng.It.again 0::_) _ _));have hstep:=l2 i (by assumption) hi;have hpos:=l0 i (by assumption);refine zao ⟨rfl,rfl,rfl⟩ hok (fun a w hx=>Eq.mpr (congrFun (congrFun (hls _ 0 (by decide)) a) w) (hL2 a w hx)) ⟨Pd i,(by rw [hPd.out];exact Nat.le_trans (Nat.sub_le i 1) hi),(by first|exact q2 i (by assumption) (by assumption) hci)⟩ (show Pd i<i by rw [hPd.out];show i-1<i;omega) (by dsimp only;simp only [hstep];cbv;simp) rfl))
  | ((with_reducible refine kC ?_);(first|refine nP [.same 0,.same 1] tn ?_|refine nP [.same 0,.same 1] tt ?_|refine nP [.same 1] ((tat _)) ?_))
  | ((with_reducible refine kG ?_);refine kO0 hR 2 ⟨rfl,?_⟩)
  | ((with_reducible refine kZ ?_);refine zbp hR 2 (by rfl) (by rfl) (by rfl) (Nat.le_refl 2) ⟨rfl,?_⟩)
  | simp only [*]
  | (split<;>(rename_i hsp;try simp only [FG] at hsp))
 all_goals (first|(rw [←q1 _ (by assumption) hci];rfl)|(rw [←q3 _ (by assumption) (by assumption) hci];rfl))
end Go.Proofs.YtpigpajgjdcagaaGreat
