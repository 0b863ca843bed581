/- Parts. -/
import Derived.Test.YtpigpajgjdcagaaGreatUm5
import Derived.Test.YtpigpajgjdcagaaGreatUp5
import Derived.Laws.StructEq
set_option linter.unusedSimpArgs false
set_option linter.unusedVariables false
set_option maxRecDepth 100000
set_option maxHeartbeats 60000000
namespace Go.Proofs.YtpigpajgjdcagaaGreat
open Go.RowKit Eng
namespace Eng
section
variable {E:Env} {R:Ending→World→Prop}
theorem zz0 {all:List Oper} {n0:Nat} {W:List Nat} {m0:List MB} {ls:List Nat} {i:Nat} {sole:Bool} {r:List (Nat × Bool)} {m:Nat} {o:Oper} {k:List It} {tm:PT} {mem:List MB} (v:SV) (ho:nth all i=some o) {x:Bool × Bool} (hw:wantE all tm o=some x) (hwx:wantB x=true) (hv:v.ok mem.length)
 (hq:∀ o0:Oper,o0.op=o.op→∀ ρ (a:Act) w,TmOk mem.length tm→Rel ρ tm a→(execOp a.eval o0).run E.P w=.ok (.value (concV ρ v)) w)
 (h:Good E R ⟨.head all n0 W m0 (i::ls) r m::k,putE tm o.dst v,mem⟩):Good E R ⟨.head all n0 W m0 ls ((i,sole)::r) m::k,tm,mem⟩:=by
 intro ρ w a hρ hl H htm ha hit l0 hl0 hO inv hc;obtain ⟨a1,a2,a3,a4⟩:=hd hit;subst hl0;rw [zak] at ho
 obtain ⟨inv',hc',him,hr,hsole,hfree⟩:=zec inv (by have:=(List.getElem?_eq_some_iff.1 ho).1;simpa [za9] using this) hc
 obtain ⟨o0,ho0,rfl⟩:=zby ho
 have hrun:=fun w=>hq o0 rfl ρ a w htm ha
 obtain ⟨hS,hh⟩:=h ρ w _ hρ hl H (zck htm hv) (zbz ha _ _) (zbh ⟨a1,a2,a3,a4⟩ (tl hit)) l0 rfl hO inv' hc'
 have ho':l0.toArray[i]?=some o0:=by simpa using ho0
 refine ⟨hS,?_⟩
 cases hb:sole with
 | true =>
   refine zfw (hsole hb) him ?_;unfold wpOp;simp only [ho'];rw [if_pos ((za7 ha hw).trans hwx)];refine .inl ?_;unfold Oper.wp;rw [hrun];exact ⟨hS,hh⟩
 | false=>exact zgw ho' hO (fun c a w hp=>zg1 k c _ _ a w hp) him _ _ _ _ inv (Region.free_spec ho' (hfree hb)) hr (.inl ⟨(za7 ha hw).trans hwx,fun w' _=>hrun w'⟩) hS hh
end
end Eng
theorem qbw (a b c d e f g h i:Int) (x y:Operand) (t:TypeId) (A:Act) (o0:Oper) (ho:o0.op=.binOp .eql 45 x y t) (hx:A.eval x=.agg #[.int .i64 a,.int .i64 b,.int .i64 c,.int .i64 d,.int .i64 e,.int .i64 f,.int .i64 g,.int .i64 h,.int .i64 i]) (hy:A.eval y=.agg #[.int .i64 a,.int .i64 b,.int .i64 c,.int .i64 d,.int .i64 e,.int .i64 f,.int .i64 g,.int .i64 h,.int .i64 i]) (w:World):(execOp A.eval o0).run Tryz.prog w=.ok (.value (.bool true)) w:=by
 have hb:(Go.binOp .eql 45 (.agg #[.int .i64 a,.int .i64 b,.int .i64 c,.int .i64 d,.int .i64 e,.int .i64 f,.int .i64 g,.int .i64 h,.int .i64 i]) (.agg #[.int .i64 a,.int .i64 b,.int .i64 c,.int .i64 d,.int .i64 e,.int .i64 f,.int .i64 g,.int .i64 h,.int .i64 i])).run Tryz.prog w=.ok (.bool true) w:=by
  rw [run_eql_struct]
  have hs:Tryz.prog.stoodInHeld 45=false:=by kernel_rfl
  simp [go_sem,hs]
 have hm:Tryz.prog.eqGuardType Tryz.prog.depth 45=false:=by kernel_rfl
 have hg:=run_eqGuard_agg (P:=Tryz.prog) w .eql 45 x y #[.int .i64 a,.int .i64 b,.int .i64 c,.int .i64 d,.int .i64 e,.int .i64 f,.int .i64 g,.int .i64 h,.int .i64 i] #[.int .i64 a,.int .i64 b,.int .i64 c,.int .i64 d,.int .i64 e,.int .i64 f,.int .i64 g,.int .i64 h,.int .i64 i] hm
 unfold execOp;rw [ho];simp only [hx,hy];simp [hg,hb]
theorem zv7:validK oneC.L oneC=0:=by decide +kernel
def pl0:PlaneD:=PlaneD.new oneC
theorem qde:PlI [] pl0:=zp8 rfl rfl
def pl1:PlaneD:={ pl0 with up:=pl0.up-2 ^ 0,q:=pl0.q.crash ((0:Nat):Int) }
theorem qaq:pl0.isUp ((0:Nat):Int)=true:=by decide +kernel
theorem qdd:PlI [] pl1:=(qde.fail (i:=0) (by decide +kernel) qaq).2.2
theorem zv3:pl1.ready=true:=by decide +kernel
theorem qdc:∃ (t9:Int) (p2:PlaneD),pl1.propose (noteE 1 5)=(p2,0,0)∧PlI [(t9,noteE 1 5)] p2∧p2.c=oneC∧p2.up=6∧StOk oneC p2.s:=by
 have hs:StOk oneC pl1.s:=zk4 zk0
 obtain ⟨t9,q',e1,e2⟩:=qdd.noteUp zv3 (by decide) (t:=1) (n:=5) (by decide +kernel) (by omega) (by omega)
 refine ⟨t9,_,e1,e2,rfl,rfl,?_⟩
 have ha:=zk2 (c:=oneC) (s:=pl1.s) (t:=1) (n:=5) (by decide +kernel) (by decide +kernel) (by omega) (by omega)
 have:=znx zk0 hs (e:=noteE 1 5) (by rw [ha])
 rw [ha] at this;exact this
theorem zwf {p:PlaneD} (hc:p.c=oneC) (hu:p.up=4):p.ready=false:=by
 unfold PlaneD.ready PlaneD.ups PlaneD.isUp PlaneD.n;rw [hc,hu]
 decide +kernel
theorem qav {p:PlaneD} (hc:p.c=oneC) (hu:p.up=6):p.isUp ((1:Nat):Int)=true:=by
 unfold PlaneD.isUp PlaneD.n;rw [hc,hu]
 decide +kernel
theorem zri (hst:StNewP):TriP Tryz.prog 33 [] ([]) (vB true):=by
 obtain ⟨A,hA,FG⟩:=aF;obtain ⟨t9,p2,e1,e2,ec,eu,es⟩:=qdc
 obtain ⟨p3,hp3⟩:∃ v9:PlaneD,v9={ p2 with up:=p2.up-2 ^ 1,q:=p2.q.crash ((1:Nat):Int) }:=⟨_,rfl⟩
 have e3:PlI [(t9,noteE 1 5)] p3:=by rw [hp3];exact (e2.fail (i:=1) (by unfold PlaneD.n;rw [ec];decide) (qav ec eu)).2.2
 have c3:p3.c=oneC:=by rw [hp3];exact ec
 have u3:p3.up=4:=by rw [hp3];show p2.up-2 ^ 1=4;rw [eu];rfl
 have r3:=zwf c3 u3
 have d3:p3.q.done=[noteE 1 5]:=e3.done
 obtain ⟨V,hV⟩:=nm (enVs [noteE 1 5])
 have f0:A.eq 0 0=true∧A.eq 16 16=true∧A.eq (A.len 1) 1=true∧A.eq 4 4=true∧A.inb 0 1=true:=by rw [hA];exact ⟨rfl,rfl,rfl,rfl,rfl⟩
 have f5:A.getN V (A.idx 0 0 9) 0 9=some [.int .i64 16,.int .i64 1,.int .i64 (-1),.int .i64 (-1),.int .i64 (-1),.int .i64 0,.int .i64 0,.int .i64 0,.int .i64 5]:=by
  rw [hA];rw [hV];rfl
 have tN:=(show TriX Tryz.prog 36 [cfgS oneC.L oneC] (cfgM oneC.L) (.tup [.one (.ptr 6 0 0),.one (.val (iv 0))]) (fun W'=>cfgM oneC.L++[PP pl0 W']) from by have:=zl3 (c:=oneC) rfl rfl (by decide) (by decide) (by decide) (by decide) (by decide) (by decide) hst zv7 3 rfl (.inl rfl) zl1;exact this)
 have tF0:=(show ∀ W,TriX Tryz.prog 43 [.one (.ptr 0 0 0),.one (.val (.int .i64 0))] [PP pl0 W] (vI 0) (fun W'=>[PP pl1 W']) from fun W=>ze7 qde (i:=0) (by decide +kernel) qaq W)
 have tn1:=(show TriP Tryz.prog 50 [.one (.val (.int .i64 1)),.one (.val (.int .i64 5))] [] (enS (noteE 1 5)) from zhz 1 5)
 have tn2:=(show TriP Tryz.prog 50 [.one (.val (.int .i64 2)),.one (.val (.int .i64 6))] [] (enS (noteE 2 6)) from zhz 2 6)
 have tP:=(show ∀ W,TriX Tryz.prog 47 [.one (.ptr 0 0 0),enS (noteE 1 5)] [PP pl1 W] (.tup [.one (.val (iv 0)),.one (.val (iv 0))]) (fun W'=>[PP p2 W']) from fun W=>by have:=zju qdd zk0 (zk4 zk0) (t:=1) (n:=5) (by omega) (by omega) W;rw [e1] at this;exact this)
 have tF1:=(show ∀ W,TriX Tryz.prog 43 [.one (.ptr 0 0 0),.one (.val (.int .i64 1))] [PP p2 W] (vI 0) (fun W'=>[PP p3 W']) from fun W=>by rw [hp3];exact ze7 e2 (i:=1) (by unfold PlaneD.n;rw [ec];decide) (qav ec eu) W)
 have tQ:=(show ∀ W,TriX Tryz.prog 47 [.one (.ptr 0 0 0),enS (noteE 2 6)] [PP p3 W] (.tup [.one (.val (iv 0)),.one (.val (iv 16))]) (fun W'=>[PP p3 W']) from fun W=>zhx p3 e3.ok (noteE 2 6) r3 W)
 have tE:=(show ∀ W,TriM Tryz.prog 49 [.one (.ptr 0 0 0)] [PP p3 W] (.one (.gsl 1 1)) [PP p3 W,.grow 45 9 1 V] from fun W=>by have:=zgj p3 (by rw [d3];decide) W;rw [d3] at this;rw [hV];exact this)
 have tU:=(show ∀ W,TriP Tryz.prog 40 [.one (.ptr 0 0 0)] [PP p3 W] (vI 4) from fun W=>by have:=zyd p3 W;rw [u3] at this;exact this)
 have tR:=(show ∀ W,TriP Tryz.prog 51 [.one (.ptr 0 0 0)] [PP p3 W] (vB false) from fun W=>by have:=zhw p3 W e3.ok;rw [r3] at this;exact this)
 clear hst;change Hid _ at hA e1 e2 ec eu es hp3 e3 c3 u3 r3 d3 hV
 refine zad (D:=ords33) (fnO zy7 Tryz.func33) 79 (fun w0 own ps R hpl hR kE=>?_)
 refine kN ?_
 repeat' (conv=>arg 3;try cbv);first
  | ((with_reducible refine kC ?_);(first|refine nM [] zyi ?_|(refine znb [.rd (.slc 0 0 1 1),.rd (.slc 1 0 1 1),.rd (.val (.slice none 0 0)),.rd (.slc 2 0 1 1),.rd (.slc 3 0 3 3),.rd (.slc 4 0 1 1)] tN (by rfl) (by exact ⟨⟨rfl,Nat.le_refl _,(za8 rfl),[],[],rfl,rfl⟩,rfl,⟨rfl,Nat.le_refl _,(za8 rfl),[],[],rfl,rfl⟩,rfl,⟨rfl,rfl,rfl,rfl⟩,trivial,⟨rfl,Nat.le_refl _,(za8 rfl),[],[],rfl,rfl⟩,rfl,⟨rfl,Nat.le_refl _,(za8 rfl),[],[],rfl,rfl⟩,rfl,⟨rfl,Nat.le_refl _,(za8 rfl),[],[],rfl,rfl⟩,rfl,trivial⟩) rfl rfl rfl rfl rfl rfl (fun _=>rfl) (fun _=>⟨.inr rfl,⟨.inr rfl,⟨.inr rfl,⟨.inr rfl,⟨.inr rfl,⟨.inr rfl,⟨rfl,trivial⟩⟩⟩⟩⟩⟩⟩) rfl (fun W0=>?_);(try simp only [PP]);(try dsimp only);obtain ⟨O0,hO0⟩:=nm (packO (plB pl0) W0);rw [←hO0];replace hO0:=kH hO0;refine kN ?_)|(have tz:=tF0 W0;simp only [PP] at tz;rw [←hO0.out] at tz;refine kX [.same 5] tz (fun W1=>?_);(try simp only [PP]);(try dsimp only);obtain ⟨O1,hO1⟩:=nm (packO (plB pl1) W1);rw [←hO1];replace hO1:=kH hO1;clear tz;refine kN ?_)|refine nP [] tn1 ?_|(have tz:=tP W1;simp only [PP] at tz;rw [←hO1.out] at tz;refine kX [.same 5] tz (fun W2=>?_);(try simp only [PP]);(try dsimp only);obtain ⟨O2,hO2⟩:=nm (packO (plB p2) W2);rw [←hO2];replace hO2:=kH hO2;clear tz;refine kN ?_)|(have tz:=tF1 W2;simp only [PP] at tz;rw [←hO2.out] at tz;refine kX [.same 5] tz (fun W3=>?_);(try simp only [PP]);(try dsimp only);obtain ⟨O3,hO3⟩:=nm (packO (plB p3) W3);rw [←hO3];replace hO3:=kH hO3;clear tz;refine kN ?_)|refine nP [] tn2 ?_|(have tz:=tQ W3;simp only [PP] at tz;rw [←hO3.out] at tz;refine kX [.same 5] tz (fun W4=>?_);(try simp only [PP]);(try dsimp only);obtain ⟨O4,hO4⟩:=nm (packO (plB p3) W4);rw [←hO4];replace hO4:=kH hO4;clear tz;refine kN ?_)|(have tz:=tE W4;simp only [PP] at tz;rw [←hO4.out] at tz;refine kM [.same 5] tz ?_;clear tz;refine kN ?_)|(have tz:=tU W4;simp only [PP] at tz;rw [←hO4.out] at tz;refine kP [.same 5] tz ?_;clear tz;refine kN ?_)|(have tz:=tR W4;simp only [PP] at tz;rw [←hO4.out] at tz;refine kP [.same 5] tz ?_;clear tz;refine kN ?_)))
  | (((with_reducible show Eng.Good _ _ (Eng.St.mk (Eng.It.head _ _ _ _ _ _ _::_) _ _));refine zz0 (.one (.val (.bool true))) rfl rfl rfl trivial (fun o0 h0 ρ a' w' htm ha=>qbw 16 1 (-1) (-1) (-1) 0 0 0 5 _ _ _ _ o0 h0 (zar (x:=.tmp 65) ha htm rfl).1 (zar (x:=.tmp 66) ha htm rfl).1 w') ?_;refine kN ?_))
  | ((with_reducible refine kG ?_);refine kO1 hR 0 ⟨rfl,rfl⟩)
  | simp only [*]
  | (split<;>(rename_i hsp;try simp only [FG] at hsp))
end Go.Proofs.YtpigpajgjdcagaaGreat
