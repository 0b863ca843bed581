/- Parts. -/
import Derived.Test.YtpigpajgjdcagaaGreatUm1
import Derived.Test.YtpigpajgjdcagaaGreatUe
set_option linter.unusedSimpArgs false
set_option linter.unusedVariables false
set_option maxRecDepth 100000
set_option maxHeartbeats 60000000
namespace Go.Proofs.YtpigpajgjdcagaaGreat
open Go.RowKit Eng
section
variable {E:Eng.Env} {R:Ending→World→Prop} {k:List It} {tm:PT} {mem:List MB}
theorem zcc (l:List Nat) (h:Eng.Good E R ⟨k,fgt l tm,mem⟩):Eng.Good E R ⟨k,tm,mem⟩:=fun ρ w a hρ hl H htm ha hit=>h ρ w a hρ hl H (zqh l htm) (zw7 l ha) hit
theorem ziz {st:St} {α:Type} (P:α→Prop) (k:List It) (tm:PT) (M:α→List MB) (rest:∀ x,P x→Eng.Good E R ⟨k,tm,M x⟩) (main:(∀ x,P x→Eng.Good E R ⟨k,tm,M x⟩)→Eng.Good E R st):Eng.Good E R st:=main rest
end
structure GSt (β:Type) where
 pt:Int
 i:Nat
 n:Nat
 lo:List Value
 l:List β
structure GSt.Ok {β:Type} (f:β→List Value) (P:β→Prop) (x:GSt β):Prop where
 n:x.n=x.l.length
 lo:x.lo=x.l.flatMap f
 all:∀ y∈x.l,P y
theorem GSt.Ok.nil {β:Type} {f:β→List Value} {P:β→Prop} (pt:Int) (i:Nat):(⟨pt,i,0,[],[]⟩:GSt β).Ok f P:=⟨rfl,rfl,by simp⟩
theorem GSt.Ok.snoc {β:Type} {f:β→List Value} {P:β→Prop} {x:GSt β} (h:x.Ok f P) {y:β} (hy:P y) (pt:Int) (i:Nat) {n1:Nat} {lo1:List Value} (hn:n1=x.n+1) (hl:lo1=x.lo++f y):(⟨pt,i,n1,lo1,x.l++[y]⟩:GSt β).Ok f P :=
 ⟨by simp [hn,h.n],by simp [hl,h.lo],fun z hz=>by
  rcases List.mem_append.1 hz with h1|h1
  ·exact h.all z h1
  ·obtain rfl:z=y:=by simpa using h1
   exact hy⟩
theorem GSt.Ok.at {β:Type} {f:β→List Value} {P:β→Prop} {x:GSt β} (h:x.Ok f P) (pt:Int) (i:Nat):(⟨pt,i,x.n,x.lo,x.l⟩:GSt β).Ok f P:=⟨h.n,h.lo,h.all⟩
def cfgGS (b:Nat) (c:CfgD):SV:=.agg [.val (iv c.regions),.gsl b c.L.zl,.gsl (b+1) c.L.cl,.gsl (b+2) c.L.tl,.gsl (b+3) c.L.vl,.gsl (b+4) c.L.rl,.gsl (b+5) c.L.ol,.val (iv c.blast),.val (iv c.lease),.val (iv c.bake)]
def cfgGM (c:CfgD):List MB:=[.grow 75 1 c.L.zl c.L.zs,.grow 137 2 c.L.cl c.L.cs,.grow 143 7 c.L.tl c.L.ts,.grow 141 2 c.L.vl c.L.vs,.grow 3 1 c.L.rl c.L.rs,.grow 3 1 c.L.ol c.L.os]
def MkOk (c:CfgD):Prop:=CfgOk c∧(c.reps.length=3∨c.reps.length=1)
theorem zkl {a b:Int} (h0:0≤a) (h1:0<b):0≤a.tmod b∧a.tmod b<b:=by
 rw [Int.tmod_eq_emod_of_nonneg h0]
 exact ⟨Int.emod_nonneg a (by omega),Int.emod_lt_of_pos a h1⟩
theorem qcl (l:List Int):l.flatMap (fun x=>[iv x])=l.map iv:=by induction l with
 | nil=>rfl
 | cons a l ih=>simp [ih]
def kcfgOrds:Ords:=[(300,[],0,[0]),(6,[(0,false),(1,false),(2,false),(3,true),(4,true),(5,true),(6,true),(7,true),(8,true),(9,true)],10,[4]),(10,[(0,false),(1,false),(2,false),(3,false),(4,false),(5,false),(6,false),(7,true),(8,true),(9,true),(10,true),(11,true),(12,true),(13,true)],14,[2,5]),(15,[(0,false),(1,false),(2,false),(3,false),(5,false),(7,false),(9,false),(10,false),(11,false),(12,false),(13,false),(14,false),(16,false),(20004,true),(20006,true),(20008,true),(20015,true),(20017,true),(18,false),(19,true)],20,[2]),(24,[(0,false),(1,false),(2,false),(3,false),(4,true),(5,true),(6,true),(7,true),(8,true),(9,true),(10,true)],11,[2,10]),(28,[(0,false),(1,false),(2,false),(3,true),(4,true),(5,true),(6,true),(7,true),(8,true),(9,true)],10,[2,7]),(32,[(0,false),(1,false),(2,false),(3,true),(4,true),(5,true),(6,true),(7,true),(8,true),(9,true)],10,[2,8])]
theorem zor (ln:Nat) (l:List Int) (hln:ln=l.length) (hl:ln≤1000000):TriZ (β:={ c:CfgD // MkOk c }) Tryz.prog 35 [.one (.rsl 0 ln)] [.rs ln (l.map iv)] (fun y=>cfgGS 1 y.1) (fun y=>.rs ln (l.map iv)::cfgGM y.1):=by
 obtain ⟨A,hA⟩:∃ A,A=std:=⟨_,rfl⟩;obtain ⟨V,hV⟩:=nm (l.map iv);rw [←hV]
 refine zad (D:=kcfgOrds) (fnO zdl Tryz.func35) 181 (fun w0 own ps R hpl hR kE=>?_)
 have KN:∀ {L:Nat→Act→World→Prop} {pt m:Int} {dst:Option Tmp} {k:List It} {tm:PT} {mem:List MB},0≤pt→pt≤100000000→1≤m∧m≤1000000000→headW [2] k=true→(nth mem 0=some (.rs ln V)∧nth mem 2=some (.own 155 [.rsl 0 ln,.val (.int .i64 pt)]))→(∀ r pt',0≤r∧r<m→0≤pt'∧pt'≤pt+1→Eng.Good ⟨Tryz.prog,tab35,kcfgOrds,Tryz.f35,w0,own,ps,L⟩ R ⟨k,putE tm dst (.one (.val (.int .i64 r))),setAt mem 2 (.own 155 [.rsl 0 ln,.val (.int .i64 pt')])⟩)→Eng.Good ⟨Tryz.prog,tab35,kcfgOrds,Tryz.f35,w0,own,ps,L⟩ R ⟨.call 87 [.one (.ptr 2 0 0),.one (.val (.int .i64 m))] dst::k,tm,mem⟩:=by
  intro L pt m dst k tm mem h1 h2 h3 h4 h5 h
  have t:=zh0 ln l hln pt ⟨h1,h2⟩ hl m h3.1 h3.2
  rw [←hV] at t
  exact zg0 0 2 [.int .i64 m] t h5.1 h5.2 rfl h4 fun y=>h _ _ y.2.1 y.2.2
 have KR:∀ {L:Nat→Act→World→Prop} {pt a b:Int} {dst:Option Tmp} {k:List It} {tm:PT} {mem:List MB},0≤pt∧pt≤100000000→a≤b∧-1000000≤a∧b≤1000000→headW [2] k=true→(nth mem 0=some (.rs ln V)∧nth mem 2=some (.own 155 [.rsl 0 ln,.val (.int .i64 pt)]))→(∀ r pt',a≤r∧r≤b→0≤pt'∧pt'≤pt+1→Eng.Good ⟨Tryz.prog,tab35,kcfgOrds,Tryz.f35,w0,own,ps,L⟩ R ⟨k,putE tm dst (.one (.val (.int .i64 r))),setAt mem 2 (.own 155 [.rsl 0 ln,.val (.int .i64 pt')])⟩)→Eng.Good ⟨Tryz.prog,tab35,kcfgOrds,Tryz.f35,w0,own,ps,L⟩ R ⟨.call 88 [.one (.ptr 2 0 0),.one (.val (.int .i64 a)),.one (.val (.int .i64 b))] dst::k,tm,mem⟩:=by
  intro L pt a b dst k tm mem h1 h3 h4 h5 h
  have t:=zrj ln l hln pt h1 hl a b h3.1 h3.2.1 h3.2.2
  rw [←hV] at t
  exact zg0 0 2 [.int .i64 a,.int .i64 b] t h5.1 h5.2 rfl h4 fun y=>h _ _ y.2.1 y.2.2
 have KY:∀ {L:Nat→Act→World→Prop} {pt m:Int} {dst:Option Tmp} {k:List It} {tm:PT} {mem:List MB},0≤pt∧pt≤100000000→1≤m∧m≤1000000→headW [2] k=true→(nth mem 0=some (.rs ln V)∧nth mem 2=some (.own 155 [.rsl 0 ln,.val (.int .i64 pt)]))→(∀ r pt',0≤pt'∧pt'≤pt+1→Eng.Good ⟨Tryz.prog,tab35,kcfgOrds,Tryz.f35,w0,own,ps,L⟩ R ⟨k,putE tm dst (.one (.val (.bool r))),setAt mem 2 (.own 155 [.rsl 0 ln,.val (.int .i64 pt')])⟩)→Eng.Good ⟨Tryz.prog,tab35,kcfgOrds,Tryz.f35,w0,own,ps,L⟩ R ⟨.call 89 [.one (.ptr 2 0 0),.one (.val (.int .i64 m))] dst::k,tm,mem⟩:=by
  intro L pt m dst k tm mem h1 h3 h4 h5 h
  have t:=zyj ln l hln pt h1 hl m h3.1 h3.2
  rw [←hV] at t
  exact zg0 0 2 [.int .i64 m] t h5.1 h5.2 rfl h4 fun y=>h _ _ y.2
 have sl1:∀ v w,A.sel true v w=v:=by rw [hA];intros;rfl
 have sl2:∀ v w,A.sel false v w=w:=by rw [hA];intros;rfl
 replace hV:=kH hV;refine kN ?_
 conv=>arg 3;cbv
 refine kM [.same 0] (zyk ln V) ?_;refine kN ?_
 conv=>arg 3;cbv
 repeat (simp only [sl1,sl2];try (conv=>arg 3;cbv))
 refine KN (by omega) (by omega) (by omega) rfl ⟨rfl,rfl⟩ (fun r1 pt2 h3 hp4=>?_)
 refine kN ?_
 conv=>arg 3;cbv
 repeat (simp only [sl1,sl2];try (conv=>arg 3;cbv))
 obtain ⟨r5,hr5⟩:=nm (r1+1)
 have e5:A.add .i64 r1 1=r5:=by rw [hA,hr5];exact wrap64 (by omega) (by omega)
 repeat (simp only [e5,sl1,sl2];try (conv=>arg 3;cbv))
 obtain ⟨rg,hrg0⟩:=nm (1+r5 % (3-1+1))
 have hrg:1≤rg∧rg≤3:=by have:=Int.emod_nonneg r5 (show (3-1+1:Int)≠0 by omega);have:=Int.emod_lt_of_pos r5 (show (0:Int)<3-1+1 by omega);omega
 have tbt:=zl6 r5 1 3 (by omega) (by omega) (by omega)
 rw [←hrg0] at tbt;refine kP [] tbt ?_;refine kN ?_
 conv=>arg 3;cbv
 repeat (simp only [sl1,sl2];try (conv=>arg 3;cbv))
 refine KR (by omega) (by omega) rfl ⟨rfl,rfl⟩ (fun bl pt5 h6 hp7=>?_)
 refine kN ?_
 conv=>arg 3;cbv
 repeat (simp only [sl1,sl2];try (conv=>arg 3;cbv))
 refine KR (by omega) (by omega) rfl ⟨rfl,rfl⟩ (fun le pt8 h9 hp10=>?_)
 refine kN ?_
 conv=>arg 3;cbv
 repeat (simp only [sl1,sl2];try (conv=>arg 3;cbv))
 refine KN (by omega) (by omega) (by omega) rfl ⟨rfl,rfl⟩ (fun ba pt11 h12 hp13=>?_)
 refine kN ?_
 conv=>arg 3;cbv
 repeat (simp only [sl1,sl2];try (conv=>arg 3;cbv))
 refine zee 3 1 75 1 rfl rfl rfl ?_
 conv=>arg 3;cbv
 refine zee 3 2 137 2 rfl rfl rfl ?_
 conv=>arg 3;cbv
 refine zee 3 3 143 7 rfl rfl rfl ?_
 conv=>arg 3;cbv
 refine zee 3 5 3 1 rfl rfl rfl ?_
 conv=>arg 3;cbv
 refine zee 3 6 3 1 rfl rfl rfl ?_
 conv=>arg 3;cbv
 have rgz:A.not (A.eq rg 0)=true:=by rw [hA];simp [std];omega
 refine zas 1 (α:={ x:GSt Int // x.Ok (fun x=>[iv x]) (fun x=>0≤x∧x<rg)∧0≤x.pt∧x.pt≤5+2 * (x.n:Int)∧x.n≤6 }) [27,28,29,30,31,32,33,34,35,36,37,38,39,40,41,42,43,44,45,46,47,48,49,50] (fun x=>[(5,.one (.val (.int .i64 (Int.ofNat x.1.n))))]) (fun x=>[.rs ln V,.own 33 [.val (.int .i64 0),.val (.slice none 0 0),.val (.slice none 0 0),.val (.slice none 0 0),.val (.slice none 0 0),.val (.slice none 0 0),.val (.slice none 0 0),.val (.int .i64 0),.val (.int .i64 0),.val (.int .i64 0)],.own 155 [.rsl 0 ln,.val (.int .i64 x.1.pt)],.own 33 [.val (.int .i64 rg),.gsl 4 x.1.n,.gsl 5 0,.gsl 6 0,.val (.slice none 0 0),.gsl 7 0,.gsl 8 0,.val (.int .i64 bl),.val (.int .i64 le),.val (.int .i64 ba)],.grow 75 1 x.1.n x.1.lo,.grow 137 2 0 [],.grow 143 7 0 [],.grow 3 1 0 [],.grow 3 1 0 []]) (fun x=>7-x.1.n) ⟨⟨pt11,0,0,[],[]⟩,.nil _ _,by dsimp only;omega⟩ ?_ ?_ (fun x=>rfl) (fun x y hy=>za0 hy trivial) rfl (fun x L' hL1 hL2=>?_)
 ·cbv
  simp
 ·rfl
 ·obtain ⟨⟨pt,i,n,lo,l'⟩,hok,hb⟩:=x
  dsimp only at hb ⊢
  have hkn:n=l'.length:=hok.n
  refine ziz (α:=GSt Int) (fun x=>x.Ok (fun x=>[iv x]) (fun x=>0≤x∧x<rg)∧0≤x.pt∧x.pt≤19∧rg≤(x.n:Int)∧x.n≤6) ?k1 ?tm1 (fun x=>[.rs ln V,.own 33 [.val (.int .i64 0),.val (.slice none 0 0),.val (.slice none 0 0),.val (.slice none 0 0),.val (.slice none 0 0),.val (.slice none 0 0),.val (.slice none 0 0),.val (.int .i64 0),.val (.int .i64 0),.val (.int .i64 0)],.own 155 [.rsl 0 ln,.val (.int .i64 x.pt)],.own 33 [.val (.int .i64 rg),.gsl 4 x.n,.gsl 5 0,.gsl 6 0,.val (.slice none 0 0),.gsl 7 0,.gsl 8 0,.val (.int .i64 bl),.val (.int .i64 le),.val (.int .i64 ba)],.grow 75 1 x.n x.lo,.grow 137 2 0 [],.grow 143 7 0 [],.grow 3 1 0 [],.grow 3 1 0 []]) ?rest1 (fun HR=>?main1)
  case main1 =>
   by_cases hi:(n:Int)<rg
   ·have q1:A.lt (Int.ofNat n) rg=true:=by rw [hA];simp [std];omega
    obtain ⟨zv,hzv⟩:=nm ((Int.ofNat n).tmod rg)
    have hzv2:0≤zv∧zv<rg:=by rw [hzv];exact zkl (by simp) (by omega)
    have z1:A.rem (Int.ofNat n) rg=zv:=by rw [hA,hzv];rfl
    obtain ⟨n1,hn1⟩:=nm (n+1);obtain ⟨lo1,hlo1⟩:=nm (lo++[.int .i64 zv])
    have a1:A.eqn n n=true:=by rw [hA];simp [std]
    have a2:A.fits n 1=true:=by rw [hA];simp [std];omega
    have a3:A.addn n 1=n1:=by rw [hA,hn1];rfl
    have a4:A.app lo [.int .i64 zv]=lo1:=by rw [hA,hlo1];rfl
    have c1:A.add .i64 (Int.ofNat n) 1=Int.ofNat n1:=by rw [hA,hn1];exact (wrap64 (by simp;omega) (by simp;omega)).trans (by simp)
    refine kN ?_
    conv=>arg 3;cbv
    repeat (simp only [c1,rgz,z1,a1,a2,a3,a4,q1,sl1,sl2];try (conv=>arg 3;cbv))
    refine zal (l:=[0,1,2,3,10,5,6,7,8]) ?_ hL2 (⟨⟨pt,n+1,n1,lo1,l'++[zv]⟩,hok.snoc (y:=zv) hzv2 _ _ hn1 hlo1,by dsimp only;omega⟩:{ x:GSt Int // x.Ok (fun x=>[iv x]) (fun x=>0≤x∧x<rg)∧0≤x.pt∧x.pt≤5+2 * (x.n:Int)∧x.n≤6 }) ?_ ?_ rfl ?_ ?_ ?_ ?_ ?_
    ·exact ⟨rfl,rfl,rfl⟩
    ·dsimp only
     omega
    ·rfl
    ·show keeps ps.length _=true
     rw [hpl];rfl
    ·intro b hb
     simp only [List.mem_cons,List.not_mem_nil,or_false] at hb
     rcases hb with rfl|rfl|rfl|rfl|rfl|rfl|rfl|rfl|rfl<;>simp [MB.ok,S1.ok]
    ·exact zav (by cbv<;>trivial)
    ·exact ⟨.inr rfl,.inr rfl,.inr rfl,.inr rfl,.inr rfl,.inr rfl,.inr rfl,.inr rfl,.inr rfl,trivial⟩
    ·cbv
     simp
   ·have q1:A.lt (Int.ofNat n) rg=false:=by rw [hA];simp [std];omega
    refine kN ?_
    conv=>arg 3;cbv
    repeat (simp only [q1,sl1,sl2];try (conv=>arg 3;cbv))
    refine KY (by omega) (by omega) rfl ⟨rfl,rfl⟩ (fun b14 pt15 hp16=>?_)
    cases b14
    ·refine kN ?_
     conv=>arg 3;cbv
     repeat (simp only [sl1,sl2];try (conv=>arg 3;cbv))
     refine zcc [5,27,28,29,30,31,32,33,34,35,36,37,38,39,40,41,42,43,44,45,46,47,48,49,50] ?_
     conv=>arg 3;cbv
     exact HR ⟨pt15,0,n,lo,l'⟩ ⟨hok.at _ _,by dsimp only;omega⟩
    ·by_cases hi2:n<6
     ·have q2:A.lt (Int.ofNat n) 6=true:=by rw [hA];simp [std];omega
      obtain ⟨zv,hzv⟩:=nm ((Int.ofNat n).tmod rg)
      have hzv2:0≤zv∧zv<rg:=by rw [hzv];exact zkl (by simp) (by omega)
      have z1:A.rem (Int.ofNat n) rg=zv:=by rw [hA,hzv];rfl
      obtain ⟨n1,hn1⟩:=nm (n+1);obtain ⟨lo1,hlo1⟩:=nm (lo++[.int .i64 zv])
      have a1:A.eqn n n=true:=by rw [hA];simp [std]
      have a2:A.fits n 1=true:=by rw [hA];simp [std];omega
      have a3:A.addn n 1=n1:=by rw [hA,hn1];rfl
      have a4:A.app lo [.int .i64 zv]=lo1:=by rw [hA,hlo1];rfl
      have c1:A.add .i64 (Int.ofNat n) 1=Int.ofNat n1:=by rw [hA,hn1];exact (wrap64 (by simp;omega) (by simp;omega)).trans (by simp)
      refine kN ?_
      conv=>arg 3;cbv
      repeat (simp only [c1,rgz,z1,a1,a2,a3,a4,q2,sl1,sl2];try (conv=>arg 3;cbv))
      refine zal (l:=[0,1,2,3,10,5,6,7,8]) ?_ hL2 (⟨⟨pt15,n+1,n1,lo1,l'++[zv]⟩,hok.snoc (y:=zv) hzv2 _ _ hn1 hlo1,by dsimp only;omega⟩:{ x:GSt Int // x.Ok (fun x=>[iv x]) (fun x=>0≤x∧x<rg)∧0≤x.pt∧x.pt≤5+2 * (x.n:Int)∧x.n≤6 }) ?_ ?_ rfl ?_ ?_ ?_ ?_ ?_
      ·exact ⟨rfl,rfl,rfl⟩
      ·dsimp only
       omega
      ·rfl
      ·show keeps ps.length _=true
       rw [hpl];rfl
      ·intro b hb
       simp only [List.mem_cons,List.not_mem_nil,or_false] at hb
       rcases hb with rfl|rfl|rfl|rfl|rfl|rfl|rfl|rfl|rfl<;>simp [MB.ok,S1.ok]
      ·exact zav (by cbv<;>trivial)
      ·exact ⟨.inr rfl,.inr rfl,.inr rfl,.inr rfl,.inr rfl,.inr rfl,.inr rfl,.inr rfl,.inr rfl,trivial⟩
      ·cbv
       simp
     ·have q2:A.lt (Int.ofNat n) 6=false:=by rw [hA];simp [std];omega
      refine kN ?_
      conv=>arg 3;cbv
      repeat (simp only [q2,sl1,sl2];try (conv=>arg 3;cbv))
      refine zcc [5,27,28,29,30,31,32,33,34,35,36,37,38,39,40,41,42,43,44,45,46,47,48,49,50] ?_
      conv=>arg 3;cbv
      exact HR ⟨pt15,0,n,lo,l'⟩ ⟨hok.at _ _,by dsimp only;omega⟩
  case rest1 =>
   intro x hx;obtain ⟨pt,_,nz,loz,lz⟩:=x;obtain ⟨hkz,hbz⟩:=hx;dsimp only at hbz ⊢
   have hnz:nz=lz.length:=hkz.n
   have hloz:loz=_:=hkz.lo
   obtain ⟨zi,hzi⟩:=nm ((nz:Int))
   have gz:A.len nz=zi:=by rw [hA,hzi];rfl
   have gz0:A.not (A.eq zi 0)=true:=by rw [hA];simp [std];omega
   refine kN ?_
   conv=>arg 3;cbv
   refine zas 2 (α:={ x:GSt (Int × Int) // x.Ok pairCells (fun x=>(0≤x.1∧x.1<(nz:Int))∧1≤x.2∧x.2≤4194304)∧0≤x.pt∧x.pt≤19+2 * (x.n:Int)∧x.n≤7 }) [51,52,53,54,55,56,57,58,59,60,61,62,63,64,65,66,67,68,69,70,71,72,73,74,75,76,77,78,79] (fun x=>[(6,.one (.val (.int .i64 (Int.ofNat x.1.n))))]) (fun x=>[.rs ln V,.own 33 [.val (.int .i64 0),.val (.slice none 0 0),.val (.slice none 0 0),.val (.slice none 0 0),.val (.slice none 0 0),.val (.slice none 0 0),.val (.slice none 0 0),.val (.int .i64 0),.val (.int .i64 0),.val (.int .i64 0)],.own 155 [.rsl 0 ln,.val (.int .i64 x.1.pt)],.own 33 [.val (.int .i64 rg),.gsl 4 nz,.gsl 5 x.1.n,.gsl 6 0,.val (.slice none 0 0),.gsl 7 0,.gsl 8 0,.val (.int .i64 bl),.val (.int .i64 le),.val (.int .i64 ba)],.grow 75 1 nz loz,.grow 137 2 x.1.n x.1.lo,.grow 143 7 0 [],.grow 3 1 0 [],.grow 3 1 0 []]) (fun x=>8-x.1.n) ⟨⟨pt,0,0,[],[]⟩,.nil _ _,by dsimp only;omega⟩ ?_ ?_ (fun x=>rfl) (fun x y hy=>za0 hy trivial) rfl (fun x L' hL1 hL2=>?_)
   ·cbv
    simp
   ·rfl
   ·obtain ⟨⟨pt,i,n,lo,l'⟩,hok,hb⟩:=x
    dsimp only at hb ⊢
    have hkn:n=l'.length:=hok.n
    refine ziz (α:=GSt (Int × Int)) (fun x=>x.Ok pairCells (fun x=>(0≤x.1∧x.1<(nz:Int))∧1≤x.2∧x.2≤4194304)∧0≤x.pt∧x.pt≤35∧zi≤(x.n:Int)∧x.n≤7) ?k2 ?tm2 (fun x=>[.rs ln V,.own 33 [.val (.int .i64 0),.val (.slice none 0 0),.val (.slice none 0 0),.val (.slice none 0 0),.val (.slice none 0 0),.val (.slice none 0 0),.val (.slice none 0 0),.val (.int .i64 0),.val (.int .i64 0),.val (.int .i64 0)],.own 155 [.rsl 0 ln,.val (.int .i64 x.pt)],.own 33 [.val (.int .i64 rg),.gsl 4 nz,.gsl 5 x.n,.gsl 6 0,.val (.slice none 0 0),.gsl 7 0,.gsl 8 0,.val (.int .i64 bl),.val (.int .i64 le),.val (.int .i64 ba)],.grow 75 1 nz loz,.grow 137 2 x.n x.lo,.grow 143 7 0 [],.grow 3 1 0 [],.grow 3 1 0 []]) ?rest2 (fun HR=>?main2)
    case main2 =>
     by_cases hi:(n:Int)<zi
     ·have q1:A.lt (Int.ofNat n) zi=true:=by rw [hA];simp [std];omega
      obtain ⟨cv,hcv⟩:=nm ((Int.ofNat n).tmod zi)
      have hcv2:0≤cv∧cv<zi:=by rw [hcv];exact zkl (by simp) (by omega)
      have z1:A.rem (Int.ofNat n) zi=cv:=by rw [hA,hcv];rfl
      refine kN ?_
      conv=>arg 3;cbv
      repeat (simp only [gz,gz0,z1,q1,sl1,sl2];try (conv=>arg 3;cbv))
      refine KR (by omega) (by omega) rfl ⟨rfl,rfl⟩ (fun r17 pt18 h19 hp20=>?_)
      obtain ⟨cm,hcm⟩:=nm (r17 * 10)
      have z2:A.mul .i64 r17 10=cm:=by rw [hA,hcm];exact wrap64 (by omega) (by omega)
      obtain ⟨n1,hn1⟩:=nm (n+1);obtain ⟨lo1,hlo1⟩:=nm (lo++[.int .i64 cv,.int .i64 cm])
      have a1:A.eqn n n=true:=by rw [hA];simp [std]
      have a2:A.fits n 1=true:=by rw [hA];simp [std];omega
      have a3:A.addn n 1=n1:=by rw [hA,hn1];rfl
      have a4:A.app lo [.int .i64 cv,.int .i64 cm]=lo1:=by rw [hA,hlo1];rfl
      have c1:A.add .i64 (Int.ofNat n) 1=Int.ofNat n1:=by rw [hA,hn1];exact (wrap64 (by simp;omega) (by simp;omega)).trans (by simp)
      refine kN ?_
      conv=>arg 3;cbv
      repeat (simp only [z2,gz,a1,a2,a3,a4,c1,sl1,sl2];try (conv=>arg 3;cbv))
      refine zal (l:=[0,1,2,3,4,10,6,7,8]) ?_ hL2 (⟨⟨pt18,n+1,n1,lo1,l'++[(cv,cm)]⟩,hok.snoc (y:=(cv,cm)) ⟨by dsimp only;omega,by dsimp only;omega⟩ _ _ hn1 hlo1,by dsimp only;omega⟩:{ x:GSt (Int × Int) // x.Ok pairCells (fun x=>(0≤x.1∧x.1<(nz:Int))∧1≤x.2∧x.2≤4194304)∧0≤x.pt∧x.pt≤19+2 * (x.n:Int)∧x.n≤7 }) ?_ ?_ rfl ?_ ?_ ?_ ?_ ?_
      ·exact ⟨rfl,rfl,rfl⟩
      ·dsimp only
       omega
      ·rfl
      ·show keeps ps.length _=true
       rw [hpl];rfl
      ·intro b hb
       simp only [List.mem_cons,List.not_mem_nil,or_false] at hb
       rcases hb with rfl|rfl|rfl|rfl|rfl|rfl|rfl|rfl|rfl<;>simp [MB.ok,S1.ok]
      ·exact zav (by cbv<;>trivial)
      ·exact ⟨.inr rfl,.inr rfl,.inr rfl,.inr rfl,.inr rfl,.inr rfl,.inr rfl,.inr rfl,.inr rfl,trivial⟩
      ·cbv
       simp
     ·have q1:A.lt (Int.ofNat n) zi=false:=by rw [hA];simp [std];omega
      refine kN ?_
      conv=>arg 3;cbv
      repeat (simp only [gz,q1,sl1,sl2];try (conv=>arg 3;cbv))
      refine KY (by omega) (by omega) rfl ⟨rfl,rfl⟩ (fun b21 pt22 hp23=>?_)
      cases b21
      ·refine kN ?_
       conv=>arg 3;cbv
       repeat (simp only [gz,sl1,sl2];try (conv=>arg 3;cbv))
       refine zcc [6,51,52,53,54,55,56,57,58,59,60,61,62,63,64,65,66,67,68,69,70,71,72,73,74,75,76,77,78,79] ?_
       conv=>arg 3;cbv
       exact HR ⟨pt22,0,n,lo,l'⟩ ⟨hok.at _ _,by dsimp only;omega⟩
      ·by_cases hi2:n<7
       ·have q2:A.lt (Int.ofNat n) 7=true:=by rw [hA];simp [std];omega
        obtain ⟨cv,hcv⟩:=nm ((Int.ofNat n).tmod zi)
        have hcv2:0≤cv∧cv<zi:=by rw [hcv];exact zkl (by simp) (by omega)
        have z1:A.rem (Int.ofNat n) zi=cv:=by rw [hA,hcv];rfl
        refine kN ?_
        conv=>arg 3;cbv
        repeat (simp only [gz,gz0,z1,q2,sl1,sl2];try (conv=>arg 3;cbv))
        refine KR (by omega) (by omega) rfl ⟨rfl,rfl⟩ (fun r24 pt25 h26 hp27=>?_)
        obtain ⟨cm,hcm⟩:=nm (r24 * 10)
        have z2:A.mul .i64 r24 10=cm:=by rw [hA,hcm];exact wrap64 (by omega) (by omega)
        obtain ⟨n1,hn1⟩:=nm (n+1);obtain ⟨lo1,hlo1⟩:=nm (lo++[.int .i64 cv,.int .i64 cm])
        have a1:A.eqn n n=true:=by rw [hA];simp [std]
        have a2:A.fits n 1=true:=by rw [hA];simp [std];omega
        have a3:A.addn n 1=n1:=by rw [hA,hn1];rfl
        have a4:A.app lo [.int .i64 cv,.int .i64 cm]=lo1:=by rw [hA,hlo1];rfl
        have c1:A.add .i64 (Int.ofNat n) 1=Int.ofNat n1:=by rw [hA,hn1];exact (wrap64 (by simp;omega) (by simp;omega)).trans (by simp)
        refine kN ?_
        conv=>arg 3;cbv
        repeat (simp only [z2,gz,a1,a2,a3,a4,c1,sl1,sl2];try (conv=>arg 3;cbv))
        refine zal (l:=[0,1,2,3,4,10,6,7,8]) ?_ hL2 (⟨⟨pt25,n+1,n1,lo1,l'++[(cv,cm)]⟩,hok.snoc (y:=(cv,cm)) ⟨by dsimp only;omega,by dsimp only;omega⟩ _ _ hn1 hlo1,by dsimp only;omega⟩:{ x:GSt (Int × Int) // x.Ok pairCells (fun x=>(0≤x.1∧x.1<(nz:Int))∧1≤x.2∧x.2≤4194304)∧0≤x.pt∧x.pt≤19+2 * (x.n:Int)∧x.n≤7 }) ?_ ?_ rfl ?_ ?_ ?_ ?_ ?_
        ·exact ⟨rfl,rfl,rfl⟩
        ·dsimp only
         omega
        ·rfl
        ·show keeps ps.length _=true
         rw [hpl];rfl
        ·intro b hb
         simp only [List.mem_cons,List.not_mem_nil,or_false] at hb
         rcases hb with rfl|rfl|rfl|rfl|rfl|rfl|rfl|rfl|rfl<;>simp [MB.ok,S1.ok]
        ·exact zav (by cbv<;>trivial)
        ·exact ⟨.inr rfl,.inr rfl,.inr rfl,.inr rfl,.inr rfl,.inr rfl,.inr rfl,.inr rfl,.inr rfl,trivial⟩
        ·cbv
         simp
       ·have q2:A.lt (Int.ofNat n) 7=false:=by rw [hA];simp [std];omega
        refine kN ?_
        conv=>arg 3;cbv
        repeat (simp only [gz,q2,sl1,sl2];try (conv=>arg 3;cbv))
        refine zcc [6,51,52,53,54,55,56,57,58,59,60,61,62,63,64,65,66,67,68,69,70,71,72,73,74,75,76,77,78,79] ?_
        conv=>arg 3;cbv
        exact HR ⟨pt22,0,n,lo,l'⟩ ⟨hok.at _ _,by dsimp only;omega⟩
    case rest2 =>
     intro x hx;obtain ⟨pt,_,nc,loc,lc⟩:=x;obtain ⟨hkc,hbc⟩:=hx;dsimp only at hbc ⊢
     have hnc:nc=lc.length:=hkc.n
     have hloc:loc=_:=hkc.lo
     refine KN (by omega) (by omega) (by omega) rfl ⟨rfl,rfl⟩ (fun rt ptt hrt hptt=>?_)
     obtain ⟨kt,rfl⟩:∃ k:Nat,rt=Int.ofNat k:=⟨rt.toNat,(Int.toNat_of_nonneg (by omega)).symm⟩
     refine kN ?_
     conv=>arg 3;cbv
     repeat (simp only [sl1,sl2];try (conv=>arg 3;cbv))
     obtain ⟨s2,al,e1,e2,e3,hal⟩:∃ s2 al:Int,A.conv .u64 rg=rg∧A.shl .i64 1 rg=s2∧A.sub .i64 s2 1=al∧1≤al∧al≤7∧al<2 ^ rg.toNat:=by
      rw [hA]
      rcases (show rg=1∨rg=2∨rg=3 by omega) with h|h|h<;>rw [h]
      ·exact ⟨2,1,rfl,rfl,rfl,by decide⟩
      ·exact ⟨4,3,rfl,rfl,rfl,by decide⟩
      ·exact ⟨8,7,rfl,rfl,rfl,by decide⟩
     have e0:A.le 0 rg=true:=by rw [hA];simp [std];omega
     refine zas 3 (α:={ x:GSt TenD // x.Ok TenD.cells (TenOk rg)∧0≤x.pt∧x.pt≤36+10 * (x.n:Int)∧x.i+x.n≤5 }) [8,9,82,83,84,85,86,87,88,89,90,91,92,93,94,95,96,97,98,99,100,101,102,103,104,105,106,107,108,109,110,111,112,113,114,115,116,117,118,119,120,121,122] (fun x=>[(7,.one (.val (.int .i64 (Int.ofNat x.1.i))))]) (fun x=>[.rs ln V,.own 33 [.val (.int .i64 0),.val (.slice none 0 0),.val (.slice none 0 0),.val (.slice none 0 0),.val (.slice none 0 0),.val (.slice none 0 0),.val (.slice none 0 0),.val (.int .i64 0),.val (.int .i64 0),.val (.int .i64 0)],.own 155 [.rsl 0 ln,.val (.int .i64 x.1.pt)],.own 33 [.val (.int .i64 rg),.gsl 4 nz,.gsl 5 nc,.gsl 6 x.1.n,.val (.slice none 0 0),.gsl 7 0,.gsl 8 0,.val (.int .i64 bl),.val (.int .i64 le),.val (.int .i64 ba)],.grow 75 1 nz loz,.grow 137 2 nc loc,.grow 143 7 x.1.n x.1.lo,.grow 3 1 0 [],.grow 3 1 0 []]) (fun x=>x.1.i) ⟨⟨ptt,kt,0,[],[]⟩,.nil _ _,by dsimp only;simp at hrt;omega⟩ ?_ ?_ (fun x=>rfl) (fun x y hy=>za0 hy trivial) rfl (fun x L' hL1 hL2=>?_)
     ·cbv
      simp
     ·rfl
     ·by_cases hi:0<x.1.i
      ·obtain ⟨⟨pt,i,n,lo,l'⟩,hok,hb⟩:=x
       dsimp only at hb ⊢;dsimp only at hi
       have hkn:n=l'.length:=hok.n
       obtain ⟨i1,hi1⟩:=nm (i-1)
       have c1:A.sub .i64 (Int.ofNat i) 1=Int.ofNat i1:=by rw [hA,hi1];exact (wrap64 (by simp;omega) (by simp;omega)).trans (by simp;omega)
       have q1:A.lt 0 (Int.ofNat i)=true:=by rw [hA];simp [std];omega
       refine kN ?_
       conv=>arg 3;cbv
       repeat (simp only [q1,sl1,sl2];try (conv=>arg 3;cbv))
       refine KR (by omega) (by omega) rfl ⟨rfl,rfl⟩ (fun ld pa hld hpa=>?_)
       obtain ⟨ld1,hld1⟩:=nm (ld+1)
       have e4:A.add .i64 ld 1=ld1:=by rw [hA,hld1];exact wrap64 (by omega) (by omega)
       refine ziz (α:=TenD × Int) (fun x=>TenOk rg x.1∧0≤x.2∧x.2≤pt+6) ?k3 ?tm3 (fun x=>[.rs ln V,.own 33 [.val (.int .i64 0),.val (.slice none 0 0),.val (.slice none 0 0),.val (.slice none 0 0),.val (.slice none 0 0),.val (.slice none 0 0),.val (.slice none 0 0),.val (.int .i64 0),.val (.int .i64 0),.val (.int .i64 0)],.own 155 [.rsl 0 ln,.val (.int .i64 x.2)],.own 33 [.val (.int .i64 rg),.gsl 4 nz,.gsl 5 nc,.gsl 6 n,.val (.slice none 0 0),.gsl 7 0,.gsl 8 0,.val (.int .i64 bl),.val (.int .i64 le),.val (.int .i64 ba)],.grow 75 1 nz loz,.grow 137 2 nc loc,.grow 143 7 n lo,.grow 3 1 0 [],.grow 3 1 0 [],.own 143 [.val (.int .i64 x.1.load),.val (.int .i64 x.1.shadow),.val (.int .i64 x.1.prio),.val (.int .i64 x.1.lag),.val (.int .i64 x.1.allowed),.val (.int .i64 x.1.group),.val (.bool x.1.noisy)]]) ?rest3 (fun HR=>?main3)
       case main3 =>
        refine kN ?_
        conv=>arg 3;cbv
        repeat (simp only [e0,e1,e2,e3,e4,sl1,sl2];try (conv=>arg 3;cbv))
        refine zb8 ⟨zdl,zaa⟩ 4 19 rfl rfl rfl rfl rfl rfl rfl (by rfl) rfl rfl rfl (by rfl) rfl ?_ ?_
        ·refine KN (by omega) (by omega) (by omega) rfl ⟨rfl,rfl⟩ (fun sh p1 hsh hp1=>?_)
         refine kN ?_
         conv=>arg 3;cbv
         repeat (simp only [e0,e1,e2,e3,e4,sl1,sl2];try (conv=>arg 3;cbv))
         refine zb8 ⟨zdl,zaa⟩ 6 19 rfl rfl rfl rfl rfl rfl rfl (by rfl) rfl rfl rfl (by rfl) rfl ?_ ?_
         ·refine KN (by omega) (by omega) (by omega) rfl ⟨rfl,rfl⟩ (fun pr p2 hpr hp2=>?_)
          refine kN ?_
          conv=>arg 3;cbv
          repeat (simp only [e0,e1,e2,e3,e4,sl1,sl2];try (conv=>arg 3;cbv))
          refine zb8 ⟨zdl,zaa⟩ 8 19 rfl rfl rfl rfl rfl rfl rfl (by rfl) rfl rfl rfl (by rfl) rfl ?_ ?_
          ·refine KR (by omega) (by omega) rfl ⟨rfl,rfl⟩ (fun la p3 hla hp3=>?_)
           refine kN ?_
           conv=>arg 3;cbv
           repeat (simp only [e0,e1,e2,e3,e4,sl1,sl2];try (conv=>arg 3;cbv))
           refine zb8 ⟨zdl,zaa⟩ 15 19 rfl rfl rfl rfl rfl rfl rfl (by rfl) rfl rfl rfl (by rfl) rfl ?_ ?_
           ·refine KN (by omega) (by omega) (by omega) rfl ⟨rfl,rfl⟩ (fun gr p4 hgr hp4=>?_)
            refine kN ?_
            conv=>arg 3;cbv
            repeat (simp only [e0,e1,e2,e3,e4,sl1,sl2];try (conv=>arg 3;cbv))
            refine zb8 ⟨zdl,zaa⟩ 17 19 rfl rfl rfl rfl rfl rfl rfl (by rfl) rfl rfl rfl (by rfl) rfl ?_ ?_
            ·refine KY (by omega) (by omega) rfl ⟨rfl,rfl⟩ (fun no p5 hp5=>?_)
             refine kN ?_
             conv=>arg 3;cbv
             repeat (simp only [e0,e1,e2,e3,e4,sl1,sl2];try (conv=>arg 3;cbv))
             refine kN ?_
             conv=>arg 3;cbv
             repeat (simp only [sl1,sl2];try (conv=>arg 3;cbv))
             refine zcc [8,86,87,88,89,90,91,92,93,94,95,96,97,98,99,100,101,102,103,104,105,106] ?_
             conv=>arg 3;cbv
             exact HR ⟨⟨ld,sh,pr,la,al,gr,no⟩,p5⟩ ⟨⟨by dsimp only;omega,by dsimp only;omega,by dsimp only;omega,by dsimp only;omega,⟨hal.1,hal.2.2⟩,by dsimp only;omega⟩,by dsimp only;omega⟩
            ·refine kN ?_
             conv=>arg 3;cbv
             repeat (simp only [e0,e1,e2,e3,e4,sl1,sl2];try (conv=>arg 3;cbv))
             refine KY (by omega) (by omega) rfl ⟨rfl,rfl⟩ (fun no p5 hp5=>?_)
             refine kN ?_
             conv=>arg 3;cbv
             repeat (simp only [e0,e1,e2,e3,e4,sl1,sl2];try (conv=>arg 3;cbv))
             refine zcc [8,86,87,88,89,90,91,92,93,94,95,96,97,98,99,100,101,102,103,104,105,106] ?_
             conv=>arg 3;cbv
             exact HR ⟨⟨ld,sh,pr,la,al,gr,no⟩,p5⟩ ⟨⟨by dsimp only;omega,by dsimp only;omega,by dsimp only;omega,by dsimp only;omega,⟨hal.1,hal.2.2⟩,by dsimp only;omega⟩,by dsimp only;omega⟩
           ·refine kN ?_
            conv=>arg 3;cbv
            repeat (simp only [e0,e1,e2,e3,e4,sl1,sl2];try (conv=>arg 3;cbv))
            refine KN (by omega) (by omega) (by omega) rfl ⟨rfl,rfl⟩ (fun gr p4 hgr hp4=>?_)
            refine kN ?_
            conv=>arg 3;cbv
            repeat (simp only [e0,e1,e2,e3,e4,sl1,sl2];try (conv=>arg 3;cbv))
            refine KY (by omega) (by omega) rfl ⟨rfl,rfl⟩ (fun no p5 hp5=>?_)
            refine kN ?_
            conv=>arg 3;cbv
            repeat (simp only [e0,e1,e2,e3,e4,sl1,sl2];try (conv=>arg 3;cbv))
            refine zcc [8,86,87,88,89,90,91,92,93,94,95,96,97,98,99,100,101,102,103,104,105,106] ?_
            conv=>arg 3;cbv
            exact HR ⟨⟨ld,sh,pr,la,al,gr,no⟩,p5⟩ ⟨⟨by dsimp only;omega,by dsimp only;omega,by dsimp only;omega,by dsimp only;omega,⟨hal.1,hal.2.2⟩,by dsimp only;omega⟩,by dsimp only;omega⟩
          ·refine kN ?_
           conv=>arg 3;cbv
           repeat (simp only [e0,e1,e2,e3,e4,sl1,sl2];try (conv=>arg 3;cbv))
           refine KR (by omega) (by omega) rfl ⟨rfl,rfl⟩ (fun la p3 hla hp3=>?_)
           refine kN ?_
           conv=>arg 3;cbv
           repeat (simp only [e0,e1,e2,e3,e4,sl1,sl2];try (conv=>arg 3;cbv))
           refine KN (by omega) (by omega) (by omega) rfl ⟨rfl,rfl⟩ (fun gr p4 hgr hp4=>?_)
           refine kN ?_
           conv=>arg 3;cbv
           repeat (simp only [e0,e1,e2,e3,e4,sl1,sl2];try (conv=>arg 3;cbv))
           refine KY (by omega) (by omega) rfl ⟨rfl,rfl⟩ (fun no p5 hp5=>?_)
           refine kN ?_
           conv=>arg 3;cbv
           repeat (simp only [e0,e1,e2,e3,e4,sl1,sl2];try (conv=>arg 3;cbv))
           refine zcc [8,86,87,88,89,90,91,92,93,94,95,96,97,98,99,100,101,102,103,104,105,106] ?_
           conv=>arg 3;cbv
           exact HR ⟨⟨ld,sh,pr,la,al,gr,no⟩,p5⟩ ⟨⟨by dsimp only;omega,by dsimp only;omega,by dsimp only;omega,by dsimp only;omega,⟨hal.1,hal.2.2⟩,by dsimp only;omega⟩,by dsimp only;omega⟩
         ·refine kN ?_
          conv=>arg 3;cbv
          repeat (simp only [e0,e1,e2,e3,e4,sl1,sl2];try (conv=>arg 3;cbv))
          refine KN (by omega) (by omega) (by omega) rfl ⟨rfl,rfl⟩ (fun pr p2 hpr hp2=>?_)
          refine kN ?_
          conv=>arg 3;cbv
          repeat (simp only [e0,e1,e2,e3,e4,sl1,sl2];try (conv=>arg 3;cbv))
          refine KR (by omega) (by omega) rfl ⟨rfl,rfl⟩ (fun la p3 hla hp3=>?_)
          refine kN ?_
          conv=>arg 3;cbv
          repeat (simp only [e0,e1,e2,e3,e4,sl1,sl2];try (conv=>arg 3;cbv))
          refine KN (by omega) (by omega) (by omega) rfl ⟨rfl,rfl⟩ (fun gr p4 hgr hp4=>?_)
          refine kN ?_
          conv=>arg 3;cbv
          repeat (simp only [e0,e1,e2,e3,e4,sl1,sl2];try (conv=>arg 3;cbv))
          refine KY (by omega) (by omega) rfl ⟨rfl,rfl⟩ (fun no p5 hp5=>?_)
          refine kN ?_
          conv=>arg 3;cbv
          repeat (simp only [e0,e1,e2,e3,e4,sl1,sl2];try (conv=>arg 3;cbv))
          refine zcc [8,86,87,88,89,90,91,92,93,94,95,96,97,98,99,100,101,102,103,104,105,106] ?_
          conv=>arg 3;cbv
          exact HR ⟨⟨ld,sh,pr,la,al,gr,no⟩,p5⟩ ⟨⟨by dsimp only;omega,by dsimp only;omega,by dsimp only;omega,by dsimp only;omega,⟨hal.1,hal.2.2⟩,by dsimp only;omega⟩,by dsimp only;omega⟩
        ·refine kN ?_
         conv=>arg 3;cbv
         repeat (simp only [e0,e1,e2,e3,e4,sl1,sl2];try (conv=>arg 3;cbv))
         refine KN (by omega) (by omega) (by omega) rfl ⟨rfl,rfl⟩ (fun sh p1 hsh hp1=>?_)
         refine kN ?_
         conv=>arg 3;cbv
         repeat (simp only [e0,e1,e2,e3,e4,sl1,sl2];try (conv=>arg 3;cbv))
         refine KN (by omega) (by omega) (by omega) rfl ⟨rfl,rfl⟩ (fun pr p2 hpr hp2=>?_)
         refine kN ?_
         conv=>arg 3;cbv
         repeat (simp only [e0,e1,e2,e3,e4,sl1,sl2];try (conv=>arg 3;cbv))
         refine KR (by omega) (by omega) rfl ⟨rfl,rfl⟩ (fun la p3 hla hp3=>?_)
         refine kN ?_
         conv=>arg 3;cbv
         repeat (simp only [e0,e1,e2,e3,e4,sl1,sl2];try (conv=>arg 3;cbv))
         refine KN (by omega) (by omega) (by omega) rfl ⟨rfl,rfl⟩ (fun gr p4 hgr hp4=>?_)
         refine kN ?_
         conv=>arg 3;cbv
         repeat (simp only [e0,e1,e2,e3,e4,sl1,sl2];try (conv=>arg 3;cbv))
         refine KY (by omega) (by omega) rfl ⟨rfl,rfl⟩ (fun no p5 hp5=>?_)
         refine kN ?_
         conv=>arg 3;cbv
         repeat (simp only [e0,e1,e2,e3,e4,sl1,sl2];try (conv=>arg 3;cbv))
         refine zcc [8,86,87,88,89,90,91,92,93,94,95,96,97,98,99,100,101,102,103,104,105,106] ?_
         conv=>arg 3;cbv
         exact HR ⟨⟨ld,sh,pr,la,al,gr,no⟩,p5⟩ ⟨⟨by dsimp only;omega,by dsimp only;omega,by dsimp only;omega,by dsimp only;omega,⟨hal.1,hal.2.2⟩,by dsimp only;omega⟩,by dsimp only;omega⟩
       case rest3 =>
        intro x hx;obtain ⟨⟨ld',sh,pr,la,al0,gr,no⟩,pt1⟩:=x;obtain ⟨htk,hpt1⟩:=hx;dsimp only at hpt1 ⊢;refine kN ?_
        conv=>arg 3;cbv
        refine KY (by omega) (by omega) rfl ⟨rfl,rfl⟩ (fun b p1 hp1=>?_)
        cases b
        ·obtain ⟨n1,hn1⟩:=nm (n+1)
         obtain ⟨lo1,hlo1⟩:=nm (lo++[.int .i64 ld',.int .i64 sh,.int .i64 pr,.int .i64 la,.int .i64 al0,.int .i64 gr,.bool no])
         have a1:A.eqn n n=true:=by rw [hA];simp [std]
         have a2:A.fits n 1=true:=by rw [hA];simp [std];omega
         have a3:A.addn n 1=n1:=by rw [hA,hn1];rfl
         have a4:A.app lo [.int .i64 ld',.int .i64 sh,.int .i64 pr,.int .i64 la,.int .i64 al0,.int .i64 gr,.bool no]=lo1:=by rw [hA,hlo1];rfl
         refine kN ?_
         conv=>arg 3;cbv
         repeat (simp only [e0,e1,e2,e3,e4,a1,a2,a3,a4,c1,sl1,sl2];try (conv=>arg 3;cbv))
         refine zal (l:=[0,1,2,3,4,5,11,7,8]) ?_ hL2 (⟨⟨p1,i1,n1,lo1,l'++[⟨ld',sh,pr,la,al0,gr,no⟩]⟩,hok.snoc (y:=⟨ld',sh,pr,la,al0,gr,no⟩) htk _ _ hn1 hlo1,by dsimp only;omega⟩:{ x:GSt TenD // x.Ok TenD.cells (TenOk rg)∧0≤x.pt∧x.pt≤36+10 * (x.n:Int)∧x.i+x.n≤5 }) ?_ ?_ rfl ?_ ?_ ?_ ?_ ?_
         ·exact ⟨rfl,rfl,rfl⟩
         ·dsimp only
          omega
         ·rfl
         ·show keeps ps.length _=true
          rw [hpl];rfl
         ·intro b hb
          simp only [List.mem_cons,List.not_mem_nil,or_false] at hb
          rcases hb with rfl|rfl|rfl|rfl|rfl|rfl|rfl|rfl|rfl<;>simp [MB.ok,S1.ok]
         ·exact zav (by cbv<;>trivial)
         ·exact ⟨.inr rfl,.inr rfl,.inr rfl,.inr rfl,.inr rfl,.inr rfl,.inr rfl,.inr rfl,.inr rfl,trivial⟩
         ·cbv
          simp
        ·refine kN ?_
         conv=>arg 3;cbv
         repeat (simp only [e0,e1,e2,e3,e4,sl1,sl2];try (conv=>arg 3;cbv))
         refine KR (by omega) (by omega) rfl ⟨rfl,rfl⟩ (fun r9 p2 hr9 hp2=>?_)
         obtain ⟨n1,hn1⟩:=nm (n+1);obtain ⟨lo1,hlo1⟩:=nm (lo++[.int .i64 ld',.int .i64 sh,.int .i64 pr,.int .i64 la,.int .i64 r9,.int .i64 gr,.bool no])
         have a1:A.eqn n n=true:=by rw [hA];simp [std]
         have a2:A.fits n 1=true:=by rw [hA];simp [std];omega
         have a3:A.addn n 1=n1:=by rw [hA,hn1];rfl
         have a4:A.app lo [.int .i64 ld',.int .i64 sh,.int .i64 pr,.int .i64 la,.int .i64 r9,.int .i64 gr,.bool no]=lo1:=by rw [hA,hlo1];rfl
         refine kN ?_
         conv=>arg 3;cbv
         repeat (simp only [e0,e1,e2,e3,e4,a1,a2,a3,a4,c1,sl1,sl2];try (conv=>arg 3;cbv))
         refine zal (l:=[0,1,2,3,4,5,11,7,8]) ?_ hL2 (⟨⟨p2,i1,n1,lo1,l'++[⟨ld',sh,pr,la,r9,gr,no⟩]⟩,hok.snoc (y:=⟨ld',sh,pr,la,r9,gr,no⟩) ⟨htk.load,htk.shadow,htk.prio,htk.lag,⟨hr9.1,Int.lt_of_le_of_lt hr9.2 hal.2.2⟩,htk.group⟩ _ _ hn1 hlo1,by dsimp only;omega⟩:{ x:GSt TenD // x.Ok TenD.cells (TenOk rg)∧0≤x.pt∧x.pt≤36+10 * (x.n:Int)∧x.i+x.n≤5 }) ?_ ?_ rfl ?_ ?_ ?_ ?_ ?_
         ·exact ⟨rfl,rfl,rfl⟩
         ·dsimp only
          omega
         ·rfl
         ·show keeps ps.length _=true
          rw [hpl];rfl
         ·intro b hb
          simp only [List.mem_cons,List.not_mem_nil,or_false] at hb
          rcases hb with rfl|rfl|rfl|rfl|rfl|rfl|rfl|rfl|rfl<;>simp [MB.ok,S1.ok]
         ·exact zav (by cbv<;>trivial)
         ·exact ⟨.inr rfl,.inr rfl,.inr rfl,.inr rfl,.inr rfl,.inr rfl,.inr rfl,.inr rfl,.inr rfl,trivial⟩
         ·cbv
          simp
      ·obtain ⟨⟨pt,ut,nt,lot,lt⟩,hkt,hbt⟩:=x
       dsimp only at hi hbt ⊢
       have hnt:nt=lt.length:=hkt.n
       have hlot:lot=_:=hkt.lo
       have q1:A.lt 0 (Int.ofNat ut)=false:=by rw [hA];simp [std];omega
       refine kN ?_
       conv=>arg 3;cbv
       repeat (simp only [q1,sl1,sl2];try (conv=>arg 3;cbv))
       refine KN (by omega) (by omega) (by omega) rfl ⟨rfl,rfl⟩ (fun v0 pv hv0 hpv=>?_)
       refine kN ?_
       conv=>arg 3;cbv
       repeat (simp only [sl1,sl2];try (conv=>arg 3;cbv))
       refine KN (by omega) (by omega) (by omega) rfl ⟨rfl,rfl⟩ (fun rv pw hrv hpw=>?_)
       obtain ⟨kv,rfl⟩:∃ k:Nat,rv=Int.ofNat k:=⟨rv.toNat,(Int.toNat_of_nonneg (by omega)).symm⟩
       refine kN ?_
       conv=>arg 3;cbv
       repeat (simp only [sl1,sl2];try (conv=>arg 3;cbv))
       refine zfz 9 1 2 [.int .i64 0,.int .i64 v0] rfl rfl (by decide) rfl rfl ?_
       conv=>arg 3;cbv
       refine zas 4 (α:={ x:GSt (Int × Int) // x.Ok pairCells (fun x=>0≤x.1∧x.1≤x.2∧x.2≤30)∧0≤x.pt∧x.pt≤90+10 * (x.n:Int)∧x.i+x.n≤3∧1≤x.n∧∃ a t,x.l=(0,a)::t }) [11,126,130,131,132,133,134,135,136,137,138,139,140,141,142,143,144,145,146] (fun x=>[(10,.one (.val (.int .i64 (Int.ofNat x.1.i))))]) (fun x=>[.rs ln V,.own 33 [.val (.int .i64 0),.val (.slice none 0 0),.val (.slice none 0 0),.val (.slice none 0 0),.val (.slice none 0 0),.val (.slice none 0 0),.val (.slice none 0 0),.val (.int .i64 0),.val (.int .i64 0),.val (.int .i64 0)],.own 155 [.rsl 0 ln,.val (.int .i64 x.1.pt)],.own 33 [.val (.int .i64 rg),.gsl 4 nz,.gsl 5 nc,.gsl 6 nt,.gsl 10 x.1.n,.gsl 7 0,.gsl 8 0,.val (.int .i64 bl),.val (.int .i64 le),.val (.int .i64 ba)],.grow 75 1 nz loz,.grow 137 2 nc loc,.grow 143 7 nt lot,.grow 3 1 0 [],.grow 3 1 0 [],.dead,.grow 141 2 x.1.n x.1.lo]) (fun x=>x.1.i) ⟨⟨pw,kv,1,[.int .i64 0,.int .i64 v0],[(0,v0)]⟩,⟨rfl,rfl,by simp;omega⟩,by dsimp only;omega,by dsimp only;omega,by dsimp only;simp at hrv;omega,by dsimp only;omega,v0,[],rfl⟩ ?_ ?_ (fun x=>rfl) (fun x y hy=>za0 hy trivial) rfl (fun x L' hL1 hL2=>?_)
       ·cbv
        simp
       ·rfl
       ·by_cases hi:0<x.1.i
        ·obtain ⟨⟨pt,i,n,lo,l'⟩,hok,hb⟩:=x
         dsimp only at hb ⊢;dsimp only at hi
         have hkn:n=l'.length:=hok.n
         obtain ⟨i1,hi1⟩:=nm (i-1)
         have c1:A.sub .i64 (Int.ofNat i) 1=Int.ofNat i1:=by rw [hA,hi1];exact (wrap64 (by simp;omega) (by simp;omega)).trans (by simp;omega)
         have q1:A.lt 0 (Int.ofNat i)=true:=by rw [hA];simp [std];omega
         refine kN ?_
         conv=>arg 3;cbv
         repeat (simp only [q1,sl1,sl2];try (conv=>arg 3;cbv))
         refine KN (by omega) (by omega) (by omega) rfl ⟨rfl,rfl⟩ (fun lw p1 hlw hp1=>?_)
         refine kN ?_
         conv=>arg 3;cbv
         repeat (simp only [sl1,sl2];try (conv=>arg 3;cbv))
         refine KN (by omega) (by omega) (by omega) rfl ⟨rfl,rfl⟩ (fun r p2 hr hp2=>?_)
         obtain ⟨hw,hhw⟩:=nm (lw+r)
         have e4:A.add .i64 lw r=hw:=by rw [hA,hhw];exact wrap64 (by omega) (by omega)
         obtain ⟨n1,hn1⟩:=nm (n+1);obtain ⟨lo1,hlo1⟩:=nm (lo++[.int .i64 lw,.int .i64 hw])
         have a1:A.eqn n n=true:=by rw [hA];simp [std]
         have a2:A.fits n 1=true:=by rw [hA];simp [std];omega
         have a3:A.addn n 1=n1:=by rw [hA,hn1];rfl
         have a4:A.app lo [.int .i64 lw,.int .i64 hw]=lo1:=by rw [hA,hlo1];rfl
         refine kN ?_
         conv=>arg 3;cbv
         repeat (simp only [e4,a1,a2,a3,a4,c1,sl1,sl2];try (conv=>arg 3;cbv))
         refine zal (l:=[0,1,2,3,4,5,6,7,8,9,12]) ?_ hL2 (⟨⟨p2,i1,n1,lo1,l'++[(lw,hw)]⟩,hok.snoc (y:=(lw,hw)) ⟨by dsimp only;omega,by dsimp only;omega,by dsimp only;omega⟩ _ _ hn1 hlo1,by dsimp only;omega,by dsimp only;omega,by dsimp only;omega,by dsimp only;omega,by obtain ⟨a,t,ht⟩:=hb.2.2.2.2;exact ⟨a,t++[(lw,hw)],by dsimp only at ht ⊢;rw [ht];rfl⟩⟩:{ x:GSt (Int × Int) // x.Ok pairCells (fun x=>0≤x.1∧x.1≤x.2∧x.2≤30)∧0≤x.pt∧x.pt≤90+10 * (x.n:Int)∧x.i+x.n≤3∧1≤x.n∧∃ a t,x.l=(0,a)::t }) ?_ ?_ rfl ?_ ?_ ?_ ?_ ?_
         ·exact ⟨rfl,rfl,rfl⟩
         ·dsimp only
          omega
         ·rfl
         ·show keeps ps.length _=true
          rw [hpl];rfl
         ·intro b hb
          simp only [List.mem_cons,List.not_mem_nil,or_false] at hb
          rcases hb with rfl|rfl|rfl|rfl|rfl|rfl|rfl|rfl|rfl|rfl|rfl<;>simp [MB.ok,S1.ok]
         ·exact zav (by cbv<;>trivial)
         ·exact ⟨.inr rfl,.inr rfl,.inr rfl,.inr rfl,.inr rfl,.inr rfl,.inr rfl,.inr rfl,.inr rfl,.inl rfl,.inr rfl,trivial⟩
         ·cbv
          simp
        ·obtain ⟨⟨pt,uv,nv,lov,lv⟩,hkv,hbv⟩:=x
         dsimp only at hi hbv ⊢
         have hnv:nv=lv.length:=hkv.n
         have hlov:lov=_:=hkv.lo
         have q1:A.lt 0 (Int.ofNat uv)=false:=by rw [hA];simp [std];omega
         refine kN ?_
         conv=>arg 3;cbv
         repeat (simp only [q1,sl1,sl2];try (conv=>arg 3;cbv))
         refine KN (by omega) (by omega) (by omega) rfl ⟨rfl,rfl⟩ (fun rr pr hrr hpr=>?_)
         obtain ⟨kr,hkr0⟩:∃ k:Nat,(k:Int)=2 * rr+1:=⟨(2 * rr+1).toNat,Int.toNat_of_nonneg (by omega)⟩
         obtain ⟨m2,hm2⟩:=nm (2 * rr)
         have e5:A.mul .i64 2 rr=m2:=by rw [hA,hm2];exact wrap64 (by omega) (by omega)
         have e6:A.add .i64 m2 1=Int.ofNat kr:=by rw [hA,hm2];exact (wrap64 (by omega) (by omega)).trans hkr0.symm
         refine kN ?_
         conv=>arg 3;cbv
         repeat (simp only [e5,e6,sl1,sl2];try (conv=>arg 3;cbv))
         refine zas 5 (α:={ x:GSt Int // x.Ok (fun x=>[iv x]) (fun x=>0≤x∧x<(nz:Int))∧0≤x.pt∧x.pt≤130+10 * (x.n:Int)∧x.i+x.n=kr }) [151,152,153,154,155,156,157,158,159,160,161,162,163,164] (fun x=>[(12,.one (.val (.int .i64 (Int.ofNat x.1.i))))]) (fun x=>[.rs ln V,.own 33 [.val (.int .i64 0),.val (.slice none 0 0),.val (.slice none 0 0),.val (.slice none 0 0),.val (.slice none 0 0),.val (.slice none 0 0),.val (.slice none 0 0),.val (.int .i64 0),.val (.int .i64 0),.val (.int .i64 0)],.own 155 [.rsl 0 ln,.val (.int .i64 x.1.pt)],.own 33 [.val (.int .i64 rg),.gsl 4 nz,.gsl 5 nc,.gsl 6 nt,.gsl 10 nv,.gsl 7 x.1.n,.gsl 8 0,.val (.int .i64 bl),.val (.int .i64 le),.val (.int .i64 ba)],.grow 75 1 nz loz,.grow 137 2 nc loc,.grow 143 7 nt lot,.grow 3 1 x.1.n x.1.lo,.grow 3 1 0 [],.dead,.grow 141 2 nv lov]) (fun x=>x.1.i) ⟨⟨pr,kr,0,[],[]⟩,.nil _ _,by dsimp only;omega⟩ ?_ ?_ (fun x=>rfl) (fun x y hy=>za0 hy trivial) rfl (fun x L' hL1 hL2=>?_)
         ·cbv
          simp
         ·rfl
         ·by_cases hi:0<x.1.i
          ·obtain ⟨⟨pt,i,n,lo,l'⟩,hok,hb⟩:=x
           dsimp only at hb ⊢;dsimp only at hi
           have hkn:n=l'.length:=hok.n
           obtain ⟨i1,hi1⟩:=nm (i-1)
           have c1:A.sub .i64 (Int.ofNat i) 1=Int.ofNat i1:=by rw [hA,hi1];exact (wrap64 (by simp;omega) (by simp;omega)).trans (by simp;omega)
           have q1:A.lt 0 (Int.ofNat i)=true:=by rw [hA];simp [std];omega
           refine kN ?_
           conv=>arg 3;cbv
           repeat (simp only [q1,gz,sl1,sl2];try (conv=>arg 3;cbv))
           refine KN (by omega) (by omega) (by omega) rfl ⟨rfl,rfl⟩ (fun r p2 hr hp2=>?_)
           obtain ⟨n1,hn1⟩:=nm (n+1);obtain ⟨lo1,hlo1⟩:=nm (lo++[.int .i64 r])
           have a1:A.eqn n n=true:=by rw [hA];simp [std]
           have a2:A.fits n 1=true:=by rw [hA];simp [std];omega
           have a3:A.addn n 1=n1:=by rw [hA,hn1];rfl
           have a4:A.app lo [.int .i64 r]=lo1:=by rw [hA,hlo1];rfl
           refine kN ?_
           conv=>arg 3;cbv
           repeat (simp only [a1,a2,a3,a4,c1,sl1,sl2];try (conv=>arg 3;cbv))
           refine zal (l:=[0,1,2,3,4,5,6,12,8,9,10]) ?_ hL2 (⟨⟨p2,i1,n1,lo1,l'++[r]⟩,hok.snoc (y:=r) (by show 0≤r∧r<(nz:Int);omega) _ _ hn1 hlo1,by dsimp only;omega⟩:{ x:GSt Int // x.Ok (fun x=>[iv x]) (fun x=>0≤x∧x<(nz:Int))∧0≤x.pt∧x.pt≤130+10 * (x.n:Int)∧x.i+x.n=kr }) ?_ ?_ rfl ?_ ?_ ?_ ?_ ?_
           ·exact ⟨rfl,rfl,rfl⟩
           ·dsimp only
            omega
           ·rfl
           ·show keeps ps.length _=true
            rw [hpl];rfl
           ·intro b hb
            simp only [List.mem_cons,List.not_mem_nil,or_false] at hb
            rcases hb with rfl|rfl|rfl|rfl|rfl|rfl|rfl|rfl|rfl|rfl|rfl<;>simp [MB.ok,S1.ok]
           ·exact zav (by cbv<;>trivial)
           ·exact ⟨.inr rfl,.inr rfl,.inr rfl,.inr rfl,.inr rfl,.inr rfl,.inr rfl,.inr rfl,.inr rfl,.inl rfl,.inr rfl,trivial⟩
           ·cbv
            simp
          ·obtain ⟨⟨pt,ur,nr,lor,lr⟩,hkr,hbr⟩:=x
           dsimp only at hi hbr ⊢
           have hnr:nr=lr.length:=hkr.n
           have hlor:lor=_:=hkr.lo
           have q1:A.lt 0 (Int.ofNat ur)=false:=by rw [hA];simp [std];omega
           refine kN ?_
           conv=>arg 3;cbv
           repeat (simp only [q1,sl1,sl2];try (conv=>arg 3;cbv))
           refine KR (by omega) (by omega) rfl ⟨rfl,rfl⟩ (fun ro po hro hpo=>?_)
           obtain ⟨ko,rfl⟩:∃ k:Nat,ro=Int.ofNat k:=⟨ro.toNat,(Int.toNat_of_nonneg (by omega)).symm⟩
           have hko4:ko≤4:=by have e:(ko:Int)≤4:=hro.2;omega
           refine kN ?_
           conv=>arg 3;cbv
           repeat (simp only [sl1,sl2];try (conv=>arg 3;cbv))
           refine zas 6 (α:={ x:GSt Int // x.Ok (fun x=>[iv x]) (fun x=>0≤x∧x<(nz:Int))∧0≤x.pt∧x.pt≤170+10 * (x.n:Int)∧x.i+x.n=ko }) [167,168,169,170,171,172,173,174,175,176,177,178,179,180] (fun x=>[(13,.one (.val (.int .i64 (Int.ofNat x.1.i))))]) (fun x=>[.rs ln V,.own 33 [.val (.int .i64 0),.val (.slice none 0 0),.val (.slice none 0 0),.val (.slice none 0 0),.val (.slice none 0 0),.val (.slice none 0 0),.val (.slice none 0 0),.val (.int .i64 0),.val (.int .i64 0),.val (.int .i64 0)],.own 155 [.rsl 0 ln,.val (.int .i64 x.1.pt)],.own 33 [.val (.int .i64 rg),.gsl 4 nz,.gsl 5 nc,.gsl 6 nt,.gsl 10 nv,.gsl 7 nr,.gsl 8 x.1.n,.val (.int .i64 bl),.val (.int .i64 le),.val (.int .i64 ba)],.grow 75 1 nz loz,.grow 137 2 nc loc,.grow 143 7 nt lot,.grow 3 1 nr lor,.grow 3 1 x.1.n x.1.lo,.dead,.grow 141 2 nv lov]) (fun x=>x.1.i) ⟨⟨po,ko,0,[],[]⟩,.nil _ _,by dsimp only;omega⟩ ?_ ?_ (fun x=>rfl) (fun x y hy=>za0 hy trivial) rfl (fun x L' hL1 hL2=>?_)
           ·cbv
            simp
           ·rfl
           ·by_cases hi:0<x.1.i
            ·obtain ⟨⟨pt,i,n,lo,l'⟩,hok,hb⟩:=x
             dsimp only at hb ⊢;dsimp only at hi
             have hkn:n=l'.length:=hok.n
             obtain ⟨i1,hi1⟩:=nm (i-1)
             have c1:A.sub .i64 (Int.ofNat i) 1=Int.ofNat i1:=by rw [hA,hi1];exact (wrap64 (by simp;omega) (by simp;omega)).trans (by simp;omega)
             have q1:A.lt 0 (Int.ofNat i)=true:=by rw [hA];simp [std];omega
             refine kN ?_
             conv=>arg 3;cbv
             repeat (simp only [q1,gz,sl1,sl2];try (conv=>arg 3;cbv))
             refine KN (by omega) (by omega) (by omega) rfl ⟨rfl,rfl⟩ (fun r p2 hr hp2=>?_)
             obtain ⟨n1,hn1⟩:=nm (n+1);obtain ⟨lo1,hlo1⟩:=nm (lo++[.int .i64 r])
             have a1:A.eqn n n=true:=by rw [hA];simp [std]
             have a2:A.fits n 1=true:=by rw [hA];simp [std];omega
             have a3:A.addn n 1=n1:=by rw [hA,hn1];rfl
             have a4:A.app lo [.int .i64 r]=lo1:=by rw [hA,hlo1];rfl
             refine kN ?_
             conv=>arg 3;cbv
             repeat (simp only [a1,a2,a3,a4,c1,sl1,sl2];try (conv=>arg 3;cbv))
             refine zal (l:=[0,1,2,3,4,5,6,7,12,9,10]) ?_ hL2 (⟨⟨p2,i1,n1,lo1,l'++[r]⟩,hok.snoc (y:=r) (by show 0≤r∧r<(nz:Int);omega) _ _ hn1 hlo1,by dsimp only;omega⟩:{ x:GSt Int // x.Ok (fun x=>[iv x]) (fun x=>0≤x∧x<(nz:Int))∧0≤x.pt∧x.pt≤170+10 * (x.n:Int)∧x.i+x.n=ko }) ?_ ?_ rfl ?_ ?_ ?_ ?_ ?_
             ·exact ⟨rfl,rfl,rfl⟩
             ·dsimp only
              omega
             ·rfl
             ·show keeps ps.length _=true
              rw [hpl];rfl
             ·intro b hb
              simp only [List.mem_cons,List.not_mem_nil,or_false] at hb
              rcases hb with rfl|rfl|rfl|rfl|rfl|rfl|rfl|rfl|rfl|rfl|rfl<;>simp [MB.ok,S1.ok]
             ·exact zav (by cbv<;>trivial)
             ·exact ⟨.inr rfl,.inr rfl,.inr rfl,.inr rfl,.inr rfl,.inr rfl,.inr rfl,.inr rfl,.inr rfl,.inl rfl,.inr rfl,trivial⟩
             ·cbv
              simp
            ·obtain ⟨⟨pt,uo,no,loo,lo⟩,hko,hbo⟩:=x
             dsimp only at hi hbo ⊢
             have hno:no=lo.length:=hko.n
             have hloo:loo=_:=hko.lo
             have q1:A.lt 0 (Int.ofNat uo)=false:=by rw [hA];simp [std];omega
             refine kN ?_
             conv=>arg 3;cbv
             repeat (simp only [q1,sl1,sl2];try (conv=>arg 3;cbv))
             obtain ⟨va,vt,hvt⟩:=hbv.2.2.2.2;rw [qcl] at hloz hlor hloo
             refine zcr hR ⟨zdl,zaa⟩ [0,4,5,6,10,7,8] ([.rs ln V,.grow 75 1 nz loz,.grow 137 2 nc loc,.grow 143 7 nt lot,.grow 141 2 nv lov,.grow 3 1 nr lor,.grow 3 1 no loo]) (by rfl) (.agg [.val (.int .i64 rg),.gsl 1 nz,.gsl 2 nc,.gsl 3 nt,.gsl 4 nv,.gsl 5 nr,.gsl 6 no,.val (.int .i64 bl),.val (.int .i64 le),.val (.int .i64 ba)]) (by rfl) (by rfl) (by rfl) (by rfl) (by rfl) hpl ⟨.inr rfl,.inr rfl,.inr rfl,.inr rfl,.inr rfl,.inr rfl,.inr rfl,trivial⟩ (by rfl) (Nat.le_of_ble_eq_true rfl) (by rfl) ⟨⟨⟨rg,lz,lc,lt,lv,lr,lo,bl,le,ba⟩,?_,?_⟩,?_,?_⟩
             rotate_right
             ·simp only [cfgGM,CfgD.L]
              rw [hnz,hnc,hnt,hnv,hnr,hno,hloz,hloc,hlot,hlov,hlor,hloo]
             rotate_right
             ·simp only [cfgGS,CfgD.L]
              rw [hnz,hnc,hnt,hnv,hnr,hno]
             ·refine ⟨?_,?_,?_,?_,?_,?_,?_,?_,?_,?_,hkz.all,?_,?_,?_,hkv.all,?_,hkt.all⟩
              all_goals first
               | (show ∀ x∈lc,(0≤x.1∧x.1<(lz.length:Int))∧1≤x.2∧x.2≤4194304;rw [←hnz];exact hkc.all)
               | (show ∀ x∈lr,0≤x∧x<(lz.length:Int);rw [←hnz];exact hkr.all)
               | (show ∀ x∈lo,0≤x∧x<(lz.length:Int);rw [←hnz];exact hko.all)
               | (intro x hx;rw [show lv=(0,va)::vt from hvt] at hx;cases hx;rfl)
               | (have hro':1≤(ko:Int)∧(ko:Int)≤4:=hro;have hrt':0≤(kt:Int)∧(kt:Int)<6:=hrt;dsimp only;omega)
             ·show lr.length=3∨lr.length=1
              omega
end Go.Proofs.YtpigpajgjdcagaaGreat
