/- Parts. -/
import Derived.Test.YtpigpajgjdcagaaGreatUf
import Derived.Test.YtpigpajgjdcagaaGreatUg
import Derived.Test.YtpigpajgjdcagaaGreatUt
set_option linter.unusedSimpArgs false
set_option linter.unusedVariables false
set_option maxRecDepth 100000
set_option maxHeartbeats 60000000
namespace Go.Proofs.YtpigpajgjdcagaaGreat
open Go.RowKit Eng
theorem zl5 {c:CfgD} {K:CfgL} (hz:K.zs.length=K.zl * 1) (hc:K.cs.length=K.cl * 2) (ht:K.ts.length=K.tl * 7) (hv:K.vs.length=K.vl * 2) (hr:K.rs.length=K.rl * 1) (ho:K.os.length=K.ol * 1) (hlzl:K.zl≤1000000) (hlcl:K.cl≤1000000) (hltl:K.tl≤1000000) (hlvl:K.vl≤1000000) (hlrl:K.rl≤1000000) (hlol:K.ol≤1000000):TriM Tryz.prog 92 [cfgS K c] (cfgM K) (.agg [.val (iv c.regions),.gsl 6 K.zl,.gsl 7 K.cl,.gsl 8 K.tl,.gsl 9 K.vl,.gsl 10 K.rl,.gsl 11 K.ol,.val (iv c.blast),.val (iv c.lease),.val (iv c.bake)]) (cfgM K++[.grow 75 1 K.zl K.zs,.grow 137 2 K.cl K.cs,.grow 143 7 K.tl K.ts,.grow 141 2 K.vl K.vs,.grow 3 1 K.rl K.rs,.grow 3 1 K.ol K.os]):=by
 obtain ⟨A,hA,FG⟩:=aF
 have tc0:=zbx zsj hz hlzl
 have tc1:=zbx zsk hc hlcl
 have tc2:=zbx zns ht hltl
 have tc3:=zbx zlh hv hlvl
 have tc4:=zbx znr hr hlrl
 have tc5:=zbx znr ho hlol
 change Hid _ at hA hz hc ht hv hr ho
 refine zad (D:=ords92) (fnO zpw Tryz.func92) 27 (fun w0 own ps R hpl hR kE=>?_)
 refine kN ?_
 repeat' (conv=>arg 3;try cbv);first
  | ((with_reducible refine kC ?_);(first|refine nM [.rd (.rsl 0 K.zl)] tc0 ?_|refine nM [.rd (.rsl 1 K.cl)] tc1 ?_|refine nM [.rd (.rsl 2 K.tl)] tc2 ?_|refine nM [.rd (.rsl 3 K.vl)] tc3 ?_|refine nM [.rd (.rsl 4 K.rl)] tc4 ?_|refine nM [.rd (.rsl 5 K.ol)] tc5 ?_))
  | ((with_reducible refine kG ?_);refine zcr hR ⟨zpw,zaa⟩ [0,1,2,3,4,5,8,9,10,11,12,13] (cfgM K++[.grow 75 1 K.zl K.zs,.grow 137 2 K.cl K.cs,.grow 143 7 K.tl K.ts,.grow 141 2 K.vl K.vs,.grow 3 1 K.rl K.rs,.grow 3 1 K.ol K.os]) (by rfl) (.agg [.val (iv c.regions),.gsl 6 K.zl,.gsl 7 K.cl,.gsl 8 K.tl,.gsl 9 K.vl,.gsl 10 K.rl,.gsl 11 K.ol,.val (iv c.blast),.val (iv c.lease),.val (iv c.bake)]) (by rfl) (by rfl) (by rfl) (by rfl) (by rfl) hpl (by exact ⟨.inr rfl,.inr rfl,.inr rfl,.inr rfl,.inr rfl,.inr rfl,.inr rfl,.inr rfl,.inr rfl,.inr rfl,.inr rfl,.inr rfl,trivial⟩) (by rfl) (by simp [cfgM]) (by rfl) ⟨rfl,rfl⟩)
  | simp only [*]
  | (split<;>(rename_i hsp;try simp only [FG] at hsp))
def stnewOrds:Ords:=[(300,[],0,[0]),(1,[(0,false),(1,false),(2,false),(4,false),(5,false),(6,false),(5000003,true),(5000007,true),(5000008,true),(5000009,true)],10,[])]
section
variable {E:Eng.Env}
theorem qdn {all:List Oper} {n0:Nat} {W:List Nat} {ds:List Nat} {tm:PT} {mem:List MB} {i d:Nat} {dl:List (Nat × Nat × (Nat→SV))} {g:(Nat→Nat)→SV} {o:Oper} {u:SV} (ho:nth all i=some o) (hd:o.dst=some d) (hg:o.guard=none) (hs:tget (fgt ds tm) d=some u)
 (hq:∀ π,quietE std E.T o.op (setDeps dl π (fgt ds tm)) []=some (g π)) (hc:∀ ρ ρ' π π',(∀ x∈dl,ρ (π x.1)=ρ' (π' x.1))→concV ρ (g π)=concV ρ' (g π')) (hk:∀ π n,(∀ x∈dl,π x.1<n)→(g π).ok n) (hb:∀ x∈dl,buildsOf o.op x.2.1=true):BE.Ok E all n0 W ds tm mem ⟨i,d,.fin dl g⟩ :=
 ⟨o,(true,true),ho,hd,by simp [wantE,hg],rfl,⟨u,hs⟩,hq,hc,hk,hb⟩
end
def mixT {α:Type} (a z:α) (n i:Nat):List α:=List.replicate i a++List.replicate (n-i) z
theorem zqb {α:Type} (a z:α) {n i:Nat} (hi:i<n):(mixT a z n i).set i a=mixT a z n (i+1)∧(mixT a z n i)[i]?=some z:=by
 unfold mixT
 have e:n-i=(n-(i+1))+1:=by omega
 constructor
 ·rw [List.set_append_right _ _ (by simp),e,List.replicate_succ]
  simp only [List.length_replicate,Nat.sub_self,List.set_cons_zero];rw [List.replicate_succ',List.append_assoc];rfl
 ·rw [List.getElem?_append_right (by simp),e,List.replicate_succ]
  simp
theorem zwc {α:Type} (f:α→List Value) (k:Nat) (hf:∀ x,(f x).length=k) (a z:α) {n i:Nat} (hi:i<n) (j:Nat) (vs:List Value) (hj:j+vs.length≤k) (he:f a=(f z).take j++vs++(f z).drop (j+vs.length)):std.set ((mixT a z n i).flatMap f) (std.idx 0 (Int.ofNat i) k) j vs=some ((mixT a z n (i+1)).flatMap f):=by
 have h:=qbr f k hf (zqb a z hi).2 [] (x':=a) j vs hj he
 rw [List.append_nil,List.append_nil,(zqb a z hi).1] at h
 rw [show std.idx 0 (Int.ofNat i) k=i * k by simp [std]]
 exact h
theorem zst {c:CfgD} {K:CfgL} (hK:K=c.L) (hltl:K.tl≤1000000) (hlcl:K.cl≤1000000) {S:StL} (hS:S=(newSt c).L):TriM Tryz.prog 64 [cfgS K c] (cfgM K) (.agg [.val (iv 0),.val (iv 0),.gsl 6 S.tl,.gsl 7 S.cl,.val (iv 1),.val (iv 0),.val (iv 0),.val (iv 0)]) (cfgM K++[.grow 134 12 S.tl S.ts,.grow 167 4 S.cl S.cs]):=by
 obtain ⟨A,hA,FG⟩:=aF;obtain ⟨Z1,hZ1⟩:=nm (std.zeros ti34.ezero K.tl);obtain ⟨Z2,hZ2⟩:=nm (std.zeros ti35.ezero K.cl)
 have hc1:std.cutok (A.len K.tl) (A.len K.tl) 1000000=true:=by rw [hA];simp [std];omega
 have hc2:std.cutok (A.len K.cl) (A.len K.cl) 1000000=true:=by rw [hA];simp [std];omega
 have hn1:std.cutn 0 (A.len K.tl)=K.tl:=by rw [hA];simp [std]
 have hn2:std.cutn 0 (A.len K.cl)=K.cl:=by rw [hA];simp [std]
 have hl1:std.zeros ti34.ezero K.tl=Z1:=hZ1.symm
 have hl2:std.zeros ti35.ezero K.cl=Z2:=hZ2.symm
 obtain ⟨T,hT⟩:∃ v9:Nat→List Value,v9=fun i=>(mixT newT ⟨false,false,0,0,0,0,0,⟨0,0,0,0,0⟩⟩ K.tl i).flatMap TsD.cells:=⟨_,rfl⟩
 obtain ⟨C,hC⟩:∃ v9:Nat→List Value,v9=fun i=>(mixT (⟨1,0,0,0⟩:CsD) ⟨0,0,0,0⟩ K.cl i).flatMap CsD.cells:=⟨_,rfl⟩
 have hT0:T 0=Z1:=by rw [hT,hZ1];simp [mixT,std,List.flatMap_def];rfl
 have hC0:C 0=Z2:=by rw [hC,hZ2];simp [mixT,std,List.flatMap_def];rfl
 have hS1:S.tl=K.tl:=by rw [hS,hK];simp [newSt,StD.L,CfgD.L]
 have hS2:S.cl=K.cl:=by rw [hS,hK];simp [newSt,StD.L,CfgD.L]
 have hS3:S.ts=T K.tl:=by rw [hS,hT,hK];simp [newSt,StD.L,CfgD.L,mixT]
 have hS4:S.cs=C K.cl:=by rw [hS,hC,hK];simp [newSt,StD.L,CfgD.L,mixT]
 have l1a:∀ i:Nat,A.lt (Int.ofNat i) (A.len K.tl)=true→A.inb (Int.ofNat i) K.tl=true:=by rw [hA];intro i;simp [std]
 have l2a:∀ i:Nat,A.lt (Int.ofNat i) (A.len K.tl)=true→A.add .i64 (Int.ofNat i) 1=Int.ofNat (i+1):=by rw [hA];intro i h;have hb:=hltl;exact za3 (by simpa [std] using h) hb
 have l3a:∀ i:Nat,A.lt (Int.ofNat i) (A.len K.tl)=true→i<K.tl:=by rw [hA];intro i;simp [std]
 have l4a:∀ i:Nat,A.lt (Int.ofNat i) (A.len K.tl)=false→K.tl≤i:=by rw [hA];intro i;simp [std]
 have l1b:∀ i:Nat,A.lt (Int.ofNat i) (A.len K.cl)=true→A.inb (Int.ofNat i) K.cl=true:=by rw [hA];intro i;simp [std]
 have l2b:∀ i:Nat,A.lt (Int.ofNat i) (A.len K.cl)=true→A.add .i64 (Int.ofNat i) 1=Int.ofNat (i+1):=by rw [hA];intro i h;have hb:=hlcl;exact za3 (by simpa [std] using h) hb
 have l3b:∀ i:Nat,A.lt (Int.ofNat i) (A.len K.cl)=true→i<K.cl:=by rw [hA];intro i;simp [std]
 have l4b:∀ i:Nat,A.lt (Int.ofNat i) (A.len K.cl)=false→K.cl≤i:=by rw [hA];intro i;simp [std]
 have hTs:∀ i:Nat,A.lt (Int.ofNat i) (A.len K.tl)=true→A.set (T i) (A.idx 0 (Int.ofNat i) 12) 0 [.bool false,.bool false,.int .i64 (-1),.int .i64 (-1),.int .i64 (-1),.int .i64 (-1),.int .i64 0,.int .i64 (-1),.int .i64 0,.int .i64 0,.int .i64 0,.int .i64 0]=some (T (i+1)):=by
  intro i h;have h2:=l3a i h;rw [hA,hT];exact zwc TsD.cells 12 (fun _=>rfl) newT _ h2 0 _ (by simp) rfl
 have hCs:∀ i:Nat,A.lt (Int.ofNat i) (A.len K.cl)=true→A.set (C i) (A.idx 0 (Int.ofNat i) 4) 0 [.int .i64 1]=some (C (i+1)):=by
  intro i h;have h2:=l3b i h;rw [hA,hC];exact zwc CsD.cells 4 (fun _=>rfl) (⟨1,0,0,0⟩:CsD) _ h2 0 _ (by simp) rfl
 change Hid _ at hA hK hS hT hC hZ1 hZ2 hT0 hC0 hS1 hS2 hS3 hS4
 refine zad (D:=stnewOrds) (fnO zkn Tryz.func64) 40 (fun w0 own ps R hpl hR kE=>?_)
 refine kN ?_
 repeat' (conv=>arg 3;try cbv);first
  | (((with_reducible show Eng.Good _ _ (Eng.St.mk (Eng.It.head _ _ _ _ _ _ _::_) _ _));refine zng ⟨zkn,zaa⟩ [⟨3,9,.mk (fun h=>.one (.gsl h K.tl)) (.grow 134 12 K.tl Z1)⟩,⟨7,13,.mk (fun h=>.one (.gsl h K.cl)) (.grow 167 4 K.cl Z2)⟩,⟨8,14,.fin [(3,9,fun h=>.one (.gsl h K.tl)),(7,13,fun h=>.one (.gsl h K.cl))] (fun π=>.agg [.val (iv 0),.val (iv 0),.gsl (π 3) K.tl,.gsl (π 7) K.cl,.val (iv 1),.val (iv 0),.val (iv 0),.val (iv 0)])⟩,⟨9,3,.mk (fun h=>.one (.ptr h 0 0)) (.own 37 (vals ti37.zero))⟩] (r2:=[]) rfl (by nofun) rfl rfl rfl rfl rfl ?_ ?_ ?_;rotate_left;rotate_left;(refine kN ?_;conv=>arg 3;cbv);rotate_left;(intro e he;simp only [List.mem_cons,List.not_mem_nil,or_false] at he;rcases he with rfl|rfl|rfl|rfl;(exact zqr rfl rfl rfl rfl rfl rfl rfl rfl ⟨rfl,rfl,rfl⟩ hc1 hn1 hl1);(exact zqr rfl rfl rfl rfl rfl rfl rfl rfl ⟨rfl,rfl,rfl⟩ hc2 hn2 hl2);(exact qdn rfl rfl rfl rfl (fun π=>rfl) (fun ρ ρ' π π' h=>by have h1:=h _ (List.mem_cons_self ..);have h2:=h _ (List.mem_cons_of_mem _ (List.mem_cons_self ..));simp only [concV,conc1,List.map,h1,h2]) (fun π n h=>by have h1:=h _ (List.mem_cons_self ..);have h2:=h _ (List.mem_cons_of_mem _ (List.mem_cons_self ..));simp [SV.ok,S1.ok];exact ⟨h1,h2⟩) (fun x hx=>by simp only [List.mem_cons,List.not_mem_nil,or_false] at hx;rcases hx with rfl|rfl<;>simp [buildsOf]));(exact zho rfl rfl rfl rfl rfl rfl rfl));(intro e he dl g hk x hx;simp only [List.mem_cons,List.not_mem_nil,or_false] at he;rcases he with rfl|rfl|rfl|rfl<;>cases hk;simp only [List.mem_cons,List.not_mem_nil,or_false] at hx;rcases hx with rfl|rfl;exact ⟨_,List.mem_cons_self ..,rfl,rfl,_,rfl⟩;exact ⟨_,List.mem_cons_of_mem _ (List.mem_cons_self ..),rfl,rfl,_,rfl⟩)))
  | (((with_reducible refine kL ?_);have hgd:=hia;clear hgd;refine zas 1 (α:={ i:Nat // i≤K.cl }) [5,32,33,34,35,36,37,38,39] (fun x=>[(31,.one (.val (.int .i64 (Int.ofNat x.1))))]) (fun x=>[.rs K.zl K.zs,.rs K.cl K.cs,.rs K.tl K.ts,.rs K.vl K.vs,.rs K.rl K.rs,.rs K.ol K.os,.own 33 [.val (iv c.regions),.rsl 0 K.zl,.rsl 1 K.cl,.rsl 2 K.tl,.rsl 3 K.vl,.rsl 4 K.rl,.rsl 5 K.ol,.val (iv c.blast),.val (iv c.lease),.val (iv c.bake)],.own 37 [.val (iv 0),.val (iv 0),.val (.slice none 0 0),.val (.slice none 0 0),.val (iv 0),.val (iv 0),.val (iv 0),.val (iv 0)],.grow 134 12 K.tl (T ia),.grow 167 4 K.cl (C x.1),.own 37 [.val (iv 0),.val (iv 0),.gsl 8 K.tl,.gsl 9 K.cl,.val (iv 1),.val (iv 0),.val (iv 0),.val (iv 0)]]) (fun x=>K.cl-x.1) ⟨0,Nat.zero_le _⟩ (by cbv;simp) (by dsimp only;rw [hC0.out]) (fun x=>rfl) (fun x y hy=>za0 hy trivial) rfl (fun x L' hL1b hL2b=>?_);obtain ⟨ib,hib⟩:=x;dsimp only;refine kN ?_))
  | (((with_reducible refine kL ?_);refine zas 0 (α:={ i:Nat // i≤K.tl }) [4,19,20,21,22,23,24,25,26,27] (fun x=>[(18,.one (.val (.int .i64 (Int.ofNat x.1))))]) (fun x=>[.rs K.zl K.zs,.rs K.cl K.cs,.rs K.tl K.ts,.rs K.vl K.vs,.rs K.rl K.rs,.rs K.ol K.os,.own 33 [.val (iv c.regions),.rsl 0 K.zl,.rsl 1 K.cl,.rsl 2 K.tl,.rsl 3 K.vl,.rsl 4 K.rl,.rsl 5 K.ol,.val (iv c.blast),.val (iv c.lease),.val (iv c.bake)],.own 37 [.val (iv 0),.val (iv 0),.val (.slice none 0 0),.val (.slice none 0 0),.val (iv 0),.val (iv 0),.val (iv 0),.val (iv 0)],.grow 134 12 K.tl (T x.1),.grow 167 4 K.cl (Z2),.own 37 [.val (iv 0),.val (iv 0),.gsl 8 K.tl,.gsl 9 K.cl,.val (iv 1),.val (iv 0),.val (iv 0),.val (iv 0)]]) (fun x=>K.tl-x.1) ⟨0,Nat.zero_le _⟩ (by cbv;simp) (by dsimp only;rw [hT0.out]) (fun x=>rfl) (fun x y hy=>za0 hy trivial) rfl (fun x L' hL1a hL2a=>?_);obtain ⟨ia,hia⟩:=x;dsimp only;refine kN ?_))
  | (((with_reducible refine kA ?_);have hlt:=l3b ib (by assumption);have hstep:=l2b ib (by assumption);refine zaw ⟨rfl,rfl,rfl⟩ hL2b ⟨ib+1,hlt⟩ (show K.cl-(ib+1)<K.cl-ib by omega) (by dsimp only;simp only [hstep, *];cbv;simp) rfl (zaj rfl)))
  | (((with_reducible refine kA ?_);have hlt:=l3a ia (by assumption);have hstep:=l2a ia (by assumption);refine zaw ⟨rfl,rfl,rfl⟩ hL2a ⟨ia+1,hlt⟩ (show K.tl-(ia+1)<K.tl-ia by omega) (by dsimp only;simp only [hstep, *];cbv;simp) rfl (zaj rfl)))
  | ((with_reducible refine kG ?_);have ea:ia=K.tl:=Nat.le_antisymm hia (l4a ia (by assumption));have eb:ib=K.cl:=Nat.le_antisymm hib (l4b ib (by assumption));subst ea;subst eb;refine zcr hR ⟨zkn,zaa⟩ [0,1,2,3,4,5,8,9] (cfgM K++[.grow 134 12 K.tl (T K.tl),.grow 167 4 K.cl (C K.cl)]) (by rfl) (.agg [.val (iv 0),.val (iv 0),.gsl 6 K.tl,.gsl 7 K.cl,.val (iv 1),.val (iv 0),.val (iv 0),.val (iv 0)]) (by rfl) (by rfl) (by rfl) (by rfl) (by rfl) hpl (by exact ⟨.inr rfl,.inr rfl,.inr rfl,.inr rfl,.inr rfl,.inr rfl,.inr rfl,.inr rfl,trivial⟩) (by rfl) (by simp [cfgM]) (by rfl) ⟨by rw [hS1.out,hS2.out],by rw [hS1.out,hS2.out,hS3.out,hS4.out]⟩)
  | simp only [*]
  | (split<;>(rename_i hsp;try simp only [FG] at hsp))
def StNewP:Prop:=∀ {c:CfgD} {K:CfgL},K=c.L→K.tl≤1000000→K.cl≤1000000→∀ {S:StL},S=(newSt c).L→TriM Tryz.prog 64 [cfgS K c] (cfgM K) (.agg [.val (iv 0),.val (iv 0),.gsl 6 S.tl,.gsl 7 S.cl,.val (iv 1),.val (iv 0),.val (iv 0),.val (iv 0)]) (cfgM K++[.grow 134 12 S.tl S.ts,.grow 167 4 S.cl S.cs])
theorem zza:StNewP:=@fun c K hK h1 h2 S hS=>zst hK h1 h2 hS
end Go.Proofs.YtpigpajgjdcagaaGreat
