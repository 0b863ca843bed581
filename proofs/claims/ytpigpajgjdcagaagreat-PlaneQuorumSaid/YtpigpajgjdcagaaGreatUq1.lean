/- Parts. -/
import Derived.Test.YtpigpajgjdcagaaGreatUo
import Derived.Test.YtpigpajgjdcagaaGreatUr12
import Derived.Test.YtpigpajgjdcagaaGreatUi
import Derived.Test.YtpigpajgjdcagaaGreatUr15
import Derived.Test.YtpigpajgjdcagaaGreatUr5
import Derived.Shelf.RegionOpenPlain
import Derived.Deep.LoopGhost
import Derived.Deep.RegionLaw
import Derived.Lib.Walk
import Derived.Lib.SliceRun
set_option linter.unusedSimpArgs false
set_option linter.unusedVariables false
set_option maxRecDepth 100000
set_option maxHeartbeats 60000000
namespace Go.Proofs.YtpigpajgjdcagaaGreat
open Go.RowKit Eng
def repB (r:RepD):MB:=rb r.id r.n r.role r.commit r.votes (r.nx 0) (r.nx 1) (r.nx 2) (r.nx 3) (r.nx 4) (r.mt 0) (r.mt 1) (r.mt 2) (r.mt 3) (r.mt 4)
def repJ (r:RepD):JD:=⟨r.j,diskB sumN r.recs,((diskB sumN r.recs).length:Int)⟩
def RB (r:RepD) (W:Nat→Prop):MB:=PB (repB r) (repJ r) W
abbrev RX:=Nat × (Nat→Prop)
def repO (r:RepD) (x:RX):AO:=atO (RB r x.2) (x.1,0)
def repOs (rs:List RepD) (xs:List RX):List AO:=List.zipWith repO rs xs
def ptrV (x:RX):Value:=.pointer (some ⟨x.1,0,none⟩)
def eO (m:MsgD) (p:Nat × Nat):AO:=atO (.grow 270 10 m.ents.length (logV m.ents)) p
def netV (l:List MsgD) (ps:List (Nat × Nat)):List Value:=(List.zipWith msgV l ps).flatten
def eOs (l:List MsgD) (ps:List (Nat × Nat)):List AO:=List.zipWith eO l ps
def enV1 (e:EnD):List Value:=e.list.map iv
def enVs (l:List EnD):List Value:=l.flatMap enV1
structure Outs (l:List MsgD) (ps:List (Nat × Nat)):Prop where
 len:ps.length=l.length
 nil:∀ (i:Nat) m p,l[i]?=some m→ps[i]?=some p→m.kind≠3→p=(0,0)
theorem Outs.cons {m:MsgD} {l:List MsgD} {p:Nat × Nat} {ps:List (Nat × Nat)} (h:Outs (m::l) (p::ps)):Outs l ps :=
 ⟨by simpa using h.len,fun i m' p' h1 h2=>h.nil (i+1) m' p' (by simpa using h1) (by simpa using h2)⟩
theorem Outs.app {l l':List MsgD} {ps ps':List (Nat × Nat)} (h:Outs l ps) (h':Outs l' ps'):Outs (l++l') (ps++ps'):=by
 refine ⟨by simp [h.len,h'.len],fun i m p h1 h2 hk=>?_⟩
 rcases Nat.lt_or_ge i l.length with hi|hi
 ·rw [List.getElem?_append_left hi] at h1
  rw [List.getElem?_append_left (by rw [h.len];exact hi)] at h2
  exact h.nil i m p h1 h2 hk
 ·rw [List.getElem?_append_right hi] at h1
  rw [List.getElem?_append_right (by rw [h.len];exact hi),h.len] at h2
  exact h'.nil _ m p h1 h2 hk
structure OX (l:List MsgD) where
 W:Nat→Prop
 ps:List (Nat × Nat)
 ok:Outs l ps
structure QX (q:QuoD) where
 xs:List RX
 ps:List (Nat × Nat)
 hx:xs.length=q.reps.length
 ok:Outs q.net ps
def qB (q:QuoD) (x:QX q):List MB:=[.own 209 [.gsl 1 q.reps.length,.gsl 2 q.net.length,.gsl 3 q.done.length],.grow 210 1 q.reps.length (x.xs.map ptrV),.grow 226 9 q.net.length (netV q.net x.ps),.grow 45 9 q.done.length (enVs q.done),.obj (poolO (repOs q.reps x.xs)),.obj (poolO (eOs q.net x.ps))]
def PQ (q:QuoD) (W:Nat→Prop):MB:=.obj (packO (qB q) W)
def HOk (r:RepD) (m:MsgD):Prop:=∀ (W:Nat→Prop) (p:Nat × Nat),(m.kind≠3→p=(0,0)) →
 TriY Tryz.prog 175 [.one (.ptr 0 0 0),.agg (vals (msgV m p))] [RB r W,.obj (eO m p)] (.one (.gsl 2 (r.handle m).2.length)) fun y:OX (r.handle m).2=>[RB (r.handle m).1 y.W,.obj (eO m p),.grow 226 9 (r.handle m).2.length (netV (r.handle m).2 y.ps),.obj (poolO (eOs (r.handle m).2 y.ps))]
def COk (r:RepD):Prop:=∀ (W:Nat→Prop),
 TriY Tryz.prog 171 [.one (.ptr 0 0 0)] [RB r W] (.one (.gsl 1 r.campaign.2.length)) fun y:OX r.campaign.2=>[RB r.campaign.1 y.W,.grow 226 9 r.campaign.2.length (netV r.campaign.2 y.ps),.obj (poolO (eOs r.campaign.2 y.ps))]
def POk (r:RepD) (e:EnD):Prop:=(r.propose e).2.2=0∧∀ (W:Nat→Prop),
 TriY Tryz.prog 172 [.one (.ptr 0 0 0),enS e] [RB r W] (.tup [.one (.gsl 1 (r.propose e).2.1.length),.one (.val (iv 0))]) fun y:OX (r.propose e).2.1=>[RB (r.propose e).1 y.W,.grow 226 9 (r.propose e).2.1.length (netV (r.propose e).2.1 y.ps),.obj (poolO (eOs (r.propose e).2.1 y.ps))]
def KOk (r:RepD):Prop:=∀ (W:Nat→Prop) (keep:Int),
 TriX Tryz.prog 176 [.one (.ptr 0 0 0),.one (.val (.int .i64 keep))] [RB r W] (.tup []) fun W'=>[RB r.crash W']
namespace Eng
theorem zos {β:Type} {P:Program} {f:FuncId} {args:List SV} {b:MB} {rest:List MB} {v:SV} {B:β→MB} {Rs:β→List MB} (hB:∀ y,(B y).rd=false∧(B y).ok 0) (h:TriY P f args (b::rest) v fun y=>B y::Rs y) (p0:Nat × Nat):TriY P f args (.obj (atO b p0)::rest) v fun y=>.obj (atO (B y) p0)::Rs y:=by
 refine ⟨h.1,fun w0 own ρ w H ha=>?_⟩
 obtain ⟨h1,h2,h3,H'⟩:=zmt H;refine (h.2 w0 own ρ w H' ha).mono ?_
 rintro e w' ⟨u,mem',ρ',rfl,⟨rfl,y,rfl⟩,hu,hle,hag,H''⟩
 have e0:ρ' 0=p0:=by rw [←hag 0 (by simp),h1]
 have:=znu (hB y).1 (hB y).2 H''
 rw [e0] at this;exact ⟨u,_,ρ',rfl,⟨rfl,y,rfl⟩,hu,hle,hag,this⟩
end Eng
theorem HOk.at {r:RepD} {m:MsgD} (h:HOk r m) (x:RX) (p:Nat × Nat) (hp:m.kind≠3→p=(0,0)) :
 TriY Tryz.prog 175 [.one (.ptr 0 0 0),.agg (vals (msgV m p))] [.obj (repO r x),.obj (eO m p)] (.one (.gsl 2 (r.handle m).2.length)) fun y:OX (r.handle m).2=>[.obj (repO (r.handle m).1 (x.1,y.W)),.obj (eO m p),.grow 226 9 (r.handle m).2.length (netV (r.handle m).2 y.ps),.obj (poolO (eOs (r.handle m).2 y.ps))] :=
 zos (B:=fun y:OX (r.handle m).2=>RB (r.handle m).1 y.W) (fun _=>⟨rfl,trivial⟩) (h x.2 p hp) (x.1,0)
theorem COk.at {r:RepD} (h:COk r) (x:RX):TriY Tryz.prog 171 [.one (.ptr 0 0 0)] [.obj (repO r x)] (.one (.gsl 1 r.campaign.2.length)) fun y:OX r.campaign.2=>[.obj (repO r.campaign.1 (x.1,y.W)),.grow 226 9 r.campaign.2.length (netV r.campaign.2 y.ps),.obj (poolO (eOs r.campaign.2 y.ps))] :=
 zos (B:=fun y:OX r.campaign.2=>RB r.campaign.1 y.W) (fun _=>⟨rfl,trivial⟩) (h x.2) (x.1,0)
theorem POk.at {r:RepD} {e:EnD} (h:POk r e) (x:RX):TriY Tryz.prog 172 [.one (.ptr 0 0 0),enS e] [.obj (repO r x)] (.tup [.one (.gsl 1 (r.propose e).2.1.length),.one (.val (iv 0))]) fun y:OX (r.propose e).2.1=>[.obj (repO (r.propose e).1 (x.1,y.W)),.grow 226 9 (r.propose e).2.1.length (netV (r.propose e).2.1 y.ps),.obj (poolO (eOs (r.propose e).2.1 y.ps))] :=
 zos (B:=fun y:OX (r.propose e).2.1=>RB (r.propose e).1 y.W) (fun _=>⟨rfl,trivial⟩) (h.2 x.2) (x.1,0)
theorem KOk.at {r:RepD} (h:KOk r) (x:RX) (keep:Int):TriX Tryz.prog 176 [.one (.ptr 0 0 0),.one (.val (.int .i64 keep))] [.obj (repO r x)] (.tup []) fun W'=>[.obj (repO r.crash (x.1,W'))] :=
 qbl (B:=fun W=>RB r.crash W) (fun _=>⟨rfl,trivial⟩) (h x.2 keep) (x.1,0)
theorem zvr {rs:List RepD} {xs:List RX} (h:xs.length=rs.length) {i:Nat} (hi:i<rs.length):(repOs rs xs)[i]?=some (repO (rs.getD i (RepD.new 0 0)) (xs.getD i (0,fun _=>False))):=by
 have hx:i<xs.length:=by omega
 simp [repOs,List.getElem?_zipWith,hi,hx]
theorem zsm {α β γ:Type} (f:α→β→γ):∀ (l:List α) (m:List β) (i:Nat) (a:α) (b:β),List.zipWith f (l.set i a) (m.set i b)=(List.zipWith f l m).set i (f a b)
 | [],_,i,a,b=>by simp
 | _::_,[],i,a,b=>by cases i<;>simp
 | x::l,y::m,0,a,b=>by simp
 | x::l,y::m,i+1,a,b=>by simp [zsm f l m i a b]
theorem zd4 (rs:List RepD) (xs:List RX) (i:Nat) (r:RepD) (x:RX):(repOs rs xs).set i (repO r x)=repOs (rs.set i r) (xs.set i x):=(zsm repO rs xs i r x).symm
theorem zie {xs:List RX} {i:Nat} {W:Nat→Prop}:(xs.set i ((xs.getD i (0,fun _=>False)).1,W)).map ptrV=xs.map ptrV:=by
 refine List.ext_getElem? fun j=>?_
 by_cases h:i=j
 ·subst h
  by_cases hi:i<xs.length
  ·simp [hi,ptrV,List.getD_eq_getElem?_getD]
  ·simp [hi]
 ·simp [List.getElem?_set_ne h]
theorem zzj {l:List MsgD}:∀ {ps:List (Nat × Nat)},ps.length=l.length→(netV l ps).length=l.length * 9:=by
 induction l with
 | nil=>intro ps _;simp [netV]
 | cons m l ih =>
   intro ps h
   cases ps with
   | nil=>simp at h
   | cons p ps =>
     have:=ih (ps:=ps) (by simpa using h)
     simp only [netV,List.zipWith_cons_cons,List.flatten_cons,List.length_append,List.length_cons] at this ⊢
     rw [this,show (msgV m p).length=9 from rfl]
     omega
theorem zqa {l l':List MsgD} {ps ps':List (Nat × Nat)} (h:ps.length=l.length):netV (l++l') (ps++ps')=netV l ps++netV l' ps':=by
 simp [netV,List.zipWith_append h.symm]
theorem qcn {l l':List MsgD} {ps ps':List (Nat × Nat)} (h:ps.length=l.length):eOs (l++l') (ps++ps')=eOs l ps++eOs l' ps':=by
 simp [eOs,List.zipWith_append h.symm]
theorem zm7 (r:RepD) (W:Nat→Prop):TriP Tryz.prog 269 [.one (.ptr 0 0 0)] [RB r W] (vI r.role):=zr1 _ _ _ _ _ _ _ _ _ _ _ _ _ _ _ _ _
theorem zfa (r:RepD) (W:Nat→Prop):TriP Tryz.prog 259 [.one (.ptr 0 0 0)] [RB r W] (vI r.commit):=zm0 _ _ _ _ _ _ _ _ _ _ _ _ _ _ _ _ _
theorem zm6 (r:RepD) (W:Nat→Prop):TriP Tryz.prog 241 [.one (.ptr 0 0 0)] [RB r W] (vI r.j.term):=zr0 _ _ _ _ _ _ _ _ _ _ _ _ _ _ _ _ _
theorem zd5 {q:QuoD} (x:QX q) {z:Int} (h:std.inb z q.reps.length=true):std.get (x.xs.map ptrV) (std.idx 0 z 1) 0=some (.pointer (some ⟨(x.xs.getD z.toNat (0,fun _=>False)).1,0,none⟩)):=by
 rw [←x.hx] at h
 have:=rowF (fun x:RX=>[ptrV x]) 1 (fun _=>rfl) x.xs (0,fun _=>False) 0 (by omega) z h
 rw [←zhi] at this;exact this
theorem zd3 {q:QuoD} (x:QX q) {z:Int} (h:std.inb z q.reps.length=true):(repOs q.reps x.xs)[z.toNat]?=some (atO (RB (q.rep z) (x.xs.getD z.toNat (0,fun _=>False)).2) ((x.xs.getD z.toNat (0,fun _=>False)).1,0)) :=
 zvr x.hx (zo5 h).2
def leadTo (q:QuoD):Nat→Int
 | 0=>-1
 | i+1=>if (q.rep (i:Int)).role=3∧(leadTo q i<0∨(q.rep (leadTo q i)).j.term<(q.rep (i:Int)).j.term) then (i:Int) else leadTo q i
theorem zna (q:QuoD):∀ i:Nat,-1≤leadTo q i∧leadTo q i<i
 | 0=>by simp [leadTo]
 | i + 1 => by
   have:=zna q i
   unfold leadTo
   split<;>omega
theorem zwj (q:QuoD):q.leader=leadTo q q.reps.length:=by
 have key:∀ (l:List RepD) (i:Nat),l=q.reps.drop i→i≤q.reps.length→QuoD.leaderGo l i (leadTo q i) q=leadTo q q.reps.length:=by
  intro l
  induction l with
  | nil =>
    intro i h hi
    have:q.reps.length≤i:=by
     have:=congrArg List.length h
     simp at this;omega
    rw [QuoD.leaderGo,show i=q.reps.length by omega]
  | cons r l ih =>
    intro i h hi
    have hlt:i<q.reps.length:=by
     have:=congrArg List.length h
     simp at this;omega
    have h2:=List.drop_eq_getElem_cons hlt
    rw [←h] at h2;obtain ⟨e1,e2⟩:=List.cons.inj h2;rw [QuoD.leaderGo]
    have e3:q.rep (i:Int)=r:=by rw [e1];simp [QuoD.rep,hlt]
    have:=ih (i+1) e2 (by omega)
    rw [←this,leadTo,e3]
 exact key q.reps 0 rfl (Nat.zero_le _)
theorem zlb:Goes Tryz.prog 194:=zbe Tryz.func194 (by kernel_rfl) (by kernel_rfl)
theorem zl2 (q:QuoD) (x:QX q) (hn3:q.reps.length≤5):TriP Tryz.prog 194 [.one (.ptr 0 0 0)] (qB q x) (vI q.leader):=by
 obtain ⟨A,hA,FG⟩:=aF;rw [zwj]
 show TriP _ _ _ [.own 209 [.gsl 1 (q.reps.length),.gsl 2 (q.net.length),.gsl 3 (q.done.length)],.grow 210 1 (q.reps.length) (x.xs.map ptrV),.grow 226 9 (q.net.length) (netV q.net x.ps),.grow 45 9 (q.done.length) (enVs q.done),.obj (poolO (repOs q.reps x.xs)),.obj (poolO (eOs q.net x.ps))] _
 obtain ⟨n,hn⟩:=nm (q.reps.length);obtain ⟨PV,hPV⟩:=nm (x.xs.map ptrV);obtain ⟨nn,hnn⟩:=nm (q.net.length);obtain ⟨NV,hNV⟩:=nm (netV q.net x.ps);obtain ⟨nd,hnd⟩:=nm (q.done.length);obtain ⟨DV,hDV⟩:=nm (enVs q.done);obtain ⟨L,hL⟩:=nm (repOs q.reps x.xs);obtain ⟨LE,hLE⟩:=nm (eOs q.net x.ps);rw [←hn,←hPV,←hnn,←hNV,←hnd,←hDV,←hL,←hLE];obtain ⟨LG,hLG⟩:=nm (leadTo q);rw [←hLG]
 have hn5:n≤5:=by rw [hn];exact hn3
 obtain ⟨ad,had⟩:=nm (fun z:Int=>(x.xs.getD z.toNat (0,fun _=>False)).1)
 obtain ⟨bR,hbR⟩:=nm (fun z:Int=>RB (q.rep z) (x.xs.getD z.toNat (0,fun _=>False)).2)
 have p1:∀ z:Int,A.inb z n=true→A.get PV (A.idx 0 z 1) 0=some (.pointer (some ⟨ad z,0,none⟩)):=by
  rw [hA,hn,hPV,had];intro z hz;exact zd5 x hz
 have p2:∀ z:Int,A.inb z n=true→L[z.toNat]?=some (atO (bR z) (ad z,0)):=by
  rw [hA,hn,hL,hbR,had];intro z hz;exact zd3 x hz
 obtain ⟨ro,hro⟩:=nm (fun z:Int=>(q.rep z).role)
 obtain ⟨cm,hcm⟩:=nm (fun z:Int=>(q.rep z).commit)
 obtain ⟨te,hte⟩:=nm (fun z:Int=>(q.rep z).j.term)
 have t1:∀ z,TriP Tryz.prog 269 [.one (.ptr 0 0 0)] [bR z] (vI (ro z)):=by
  rw [hbR,hro];intro z;exact zm7 _ _
 have t2:∀ z,TriP Tryz.prog 259 [.one (.ptr 0 0 0)] [bR z] (vI (cm z)):=by
  rw [hbR,hcm];intro z;exact zfa _ _
 have t3:∀ z,TriP Tryz.prog 241 [.one (.ptr 0 0 0)] [bR z] (vI (te z)):=by
  rw [hbR,hte];intro z;exact zm6 _ _
 have l1:∀ i:Nat,A.lt (Int.ofNat i) (A.len n)=true→A.inb (Int.ofNat i) n=true:=by rw [hA];intro i;simp [std]
 have l2:∀ i:Nat,A.lt (Int.ofNat i) (A.len n)=true→A.add .i64 (Int.ofNat i) 1=Int.ofNat (i+1):=by rw [hA];intro i h;have hb:=(show n≤1000000 by omega);exact za3 (by simpa [std] using h) hb
 have l3:∀ i:Nat,A.lt (Int.ofNat i) (A.len n)=true→i<n:=by rw [hA];intro i;simp [std]
 have l4:∀ i:Nat,A.lt (Int.ofNat i) (A.len n)=false→n≤i:=by rw [hA];intro i;simp [std]
 have g0:LG 0=-1:=by rw [hLG];rfl
 have g1:∀ i:Nat,A.lt (Int.ofNat i) (A.len n)=true→A.lt (LG i) 0=false→A.inb (LG i) n=true:=by
  rw [hA,hLG];intro i h1 h2;have:=zna q i;simp [std] at h1 h2 ⊢;omega
 have s1:∀ i:Nat,A.eq (ro (Int.ofNat i)) 3=false→LG (i+1)=LG i:=by
  rw [hA,hLG,hro];intro i h;have h3:¬ (q.rep (i:Int)).role=3:=of_decide_eq_false h;show leadTo q (i+1)=_;rw [leadTo,if_neg (fun h4=>h3 h4.1)]
 have s2:∀ i:Nat,A.eq (ro (Int.ofNat i)) 3=true→A.lt (LG i) 0=true→LG (i+1)=Int.ofNat i:=by
  rw [hA,hLG,hro];intro i h h2;have h3:(q.rep (i:Int)).role=3:=of_decide_eq_true h;have h4:leadTo q i<0:=of_decide_eq_true h2;show leadTo q (i+1)=_;rw [leadTo,if_pos ⟨h3,.inl h4⟩];rfl
 have s3:∀ i:Nat,A.eq (ro (Int.ofNat i)) 3=true→A.lt (LG i) 0=false→A.lt (te (LG i)) (te (Int.ofNat i))=true→LG (i+1)=Int.ofNat i:=by
  rw [hA,hLG,hro,hte];intro i h h2 h5;have h3:(q.rep (i:Int)).role=3:=of_decide_eq_true h;have h4:(q.rep (leadTo q i)).j.term<(q.rep (i:Int)).j.term:=of_decide_eq_true h5;show leadTo q (i+1)=_;rw [leadTo,if_pos ⟨h3,.inr h4⟩];rfl
 have s4:∀ i:Nat,A.eq (ro (Int.ofNat i)) 3=true→A.lt (LG i) 0=false→A.lt (te (LG i)) (te (Int.ofNat i))=false→LG (i+1)=LG i:=by
  rw [hA,hLG,hro,hte];intro i h h2 h5;have h3:¬ leadTo q i<0:=of_decide_eq_false h2;have h4:¬ (q.rep (leadTo q i)).j.term<(q.rep (i:Int)).j.term:=of_decide_eq_false h5;show leadTo q (i+1)=_;rw [leadTo,if_neg (fun h6=>h6.2.elim h3 h4)]
 change Hid _ at hA hn hPV hnn hNV hnd hDV hL hLE hLG had hbR hro hcm hte
 refine zad (D:=ords194) (fnO zu9 Tryz.func194) 38 (fun w0 own ps R hpl hR kE=>?_)
 refine kN ?_
 repeat' (conv=>arg 3;try cbv);first
  | ((with_reducible refine kC ?_);(first|(refine zf0 4 ((Int.ofNat i):Int).toNat [] (by rfl) (p2 (Int.ofNat i) (l1 _ (by assumption))) (t1 (Int.ofNat i)) (by rfl) rfl rfl rfl rfl rfl rfl ?_;refine kN ?_)|(refine zf0 4 ((Int.ofNat i):Int).toNat [] (by rfl) (p2 (Int.ofNat i) (l1 _ (by assumption))) (t3 (Int.ofNat i)) (by rfl) rfl rfl rfl rfl rfl rfl ?_;refine kN ?_)|(refine zf0 4 ((LG i):Int).toNat [] (by rfl) (p2 (LG i) (g1 _ (by assumption) (by assumption))) (t3 (LG i)) (by rfl) rfl rfl rfl rfl rfl rfl ?_;refine kN ?_)))
  | (((with_reducible refine kL ?_);refine zau 0 (α:={ i:Nat // i≤n }) [4,5,12,13,14,15,16,17,18,19,20,21,22,23,24,25,26,27,28,29,30,31,32,33,34,35,36,37] (fun x=>[(11,.one (.val (.int .i64 (Int.ofNat x.1)))),(3,.one (.val (.int .i64 (LG x.1))))]) (fun x=>n-x.1) ⟨0,Nat.zero_le _⟩ (by dsimp only;simp only [g0]<;>cbv<;>try simp) (fun x y hy=>zb1 hy trivial trivial) rfl (fun x L' hok hL1 hL2=>?_);obtain ⟨i,hi⟩:=x;dsimp only;refine kN ?_))
  | (((with_reducible refine kA ?_);have hlt:=l3 i (by assumption);have hstep:=l2 i (by assumption);(first|have hB:=s1 i (by assumption)|have hB:=s2 i (by assumption) (by assumption)|have hB:=s3 i (by assumption) (by assumption) (by assumption)|have hB:=s4 i (by assumption) (by assumption) (by assumption));refine zao ⟨rfl,rfl,rfl⟩ hok hL2 ⟨i+1,hlt⟩ (show n-(i+1)<n-i by omega) (by dsimp only;simp only [hstep,hB];cbv;simp) rfl))
  | ((with_reducible refine kG ?_);have hiN:i=n:=Nat.le_antisymm hi (l4 i (by assumption));subst hiN;refine kO1 hR 6 ⟨rfl,rfl⟩)
  | simp only [*]
  | (split<;>(rename_i hsp;try simp only [FG] at hsp))
theorem zof (q:QuoD) (hn3:q.reps.length≤5) (W:Nat→Prop):TriP Tryz.prog 194 [.one (.ptr 0 0 0)] [PQ q W] (vI q.leader) :=
 zcz zlb (fun _=>by simp [qB]) rfl rfl fun x=>zl2 q x hn3
def msg0:MsgD:=⟨0,0,0,0,0,0,0,false,[]⟩
theorem zm4:∀ (l:List MsgD) (ps:List (Nat × Nat)),netV l ps=(l.zip ps).flatMap fun x=>msgV x.1 x.2
 | [],_=>by simp [netV]
 | _::_,[]=>by simp [netV]
 | m :: l, p :: ps => by
   have:=zm4 l ps
   simp only [netV] at this;simp [netV,this]
theorem zp9 {l:List MsgD} {ps:List (Nat × Nat)} (h:ps.length=l.length) {i:Nat} (hi:i<l.length):std.getN (netV l ps) (std.idx 0 (Int.ofNat i) 9) 0 9=some (msgV (l.getD i msg0) (ps.getD i (0,0))):=by
 rw [zm4]
 have h2:i<(l.zip ps).length:=by simp;omega
 have:=rowN (fun x:MsgD × (Nat × Nat)=>msgV x.1 x.2) 9 (fun _=>rfl) (l.zip ps) (msg0,(0,0)) (Int.ofNat i) (by simp [std];omega)
 rw [this]
 have h3:i<ps.length:=by omega
 have h4:(l.zip ps)[i]?=some (l[i],ps[i]):=by rw [List.getElem?_eq_getElem h2];simp
 simp [List.getD_eq_getElem?_getD,hi,h3,h4]
theorem zv8 {l:List MsgD} {ps:List (Nat × Nat)} (h:ps.length=l.length) {i:Nat} (hi:i<l.length):netV (l.take (i+1)) (ps.take (i+1))=netV (l.take i) (ps.take i)++msgV (l.getD i msg0) (ps.getD i (0,0)):=by
 have h3:i<ps.length:=by omega
 rw [List.take_add_one,List.take_add_one,zqa (by simp;omega),List.getElem?_eq_getElem hi,List.getElem?_eq_getElem h3]
 simp [netV,hi,h3]
theorem qbs {q:QuoD} {out:List MsgD} (h:q.net.length+out.length≤200):q.send out={ q with net:=q.net++out }:=by
 unfold QuoD.send
 rw [zd0 _ _ (by omega)]
def ordsS2:Ords:=[(300,[],0,[0]),(5,[(0,false),(1,false),(2,false),(3,false),(4,false),(5,true),(6,true),(7,true),(8,true),(9,true)],10,[4])]
theorem zfg (q:QuoD) (out:List MsgD) (qs:List (Nat × Nat)) (ok:Outs out qs) (hnet:q.net.length+out.length≤200) (W:Nat→Prop):TriX Tryz.prog 170 [.one (.ptr 0 0 0),.one (.gsl 1 out.length)] ([PQ q W,.grow 226 9 out.length (netV out qs),.obj (poolO (eOs out qs))]) (.tup []) (fun W'=>[PQ (q.send out) W',.grow 226 9 out.length (netV out qs),.dead]):=by
 obtain ⟨A,hA,FG⟩:=aF;rw [qbs hnet]
 have hbx:∀ x:QX q,Outs (q.net++out) (x.ps++qs):=fun x=>x.ok.app ok
 change TriX _ _ _ [.obj (packO (qB q) W),_,_] _ (fun W'=>[.obj (packO (qB { q with net:=q.net++out }) W'),_,_])
 obtain ⟨k,hk⟩:=nm (out.length);obtain ⟨OV,hOV⟩:=nm (netV out qs);obtain ⟨LO,hLO⟩:=nm (eOs out qs);rw [←hk,←hOV,←hLO]
 obtain ⟨b0,hb0⟩:=nm (fun i:Nat=>(out.getD i msg0).kind)
 obtain ⟨b1,hb1⟩:=nm (fun i:Nat=>(out.getD i msg0).src)
 obtain ⟨b2,hb2⟩:=nm (fun i:Nat=>(out.getD i msg0).to)
 obtain ⟨b3,hb3⟩:=nm (fun i:Nat=>(out.getD i msg0).term)
 obtain ⟨b4,hb4⟩:=nm (fun i:Nat=>(out.getD i msg0).index)
 obtain ⟨b5,hb5⟩:=nm (fun i:Nat=>(out.getD i msg0).prev)
 obtain ⟨b6,hb6⟩:=nm (fun i:Nat=>(out.getD i msg0).commit)
 obtain ⟨b7,hb7⟩:=nm (fun i:Nat=>(out.getD i msg0).ok)
 obtain ⟨b8,hb8⟩:=nm (fun i:Nat=>gA (qs.getD i (0,0)))
 obtain ⟨b9,hb9⟩:=nm (fun i:Nat=>(out.getD i msg0).ents.length)
 obtain ⟨b10,hb10⟩:=nm (fun i:Nat=>gC (qs.getD i (0,0)))
 have l1:∀ i:Nat,A.lt (Int.ofNat i) (A.len k)=true→A.inb (Int.ofNat i) k=true:=by rw [hA];intro i;simp [std]
 have l2:∀ i:Nat,A.lt (Int.ofNat i) (A.len k)=true→A.add .i64 (Int.ofNat i) 1=Int.ofNat (i+1):=by rw [hA];intro i h;have hb:=(show k≤1000000 by omega);exact za3 (by simpa [std] using h) hb
 have l3:∀ i:Nat,A.lt (Int.ofNat i) (A.len k)=true→i<k:=by rw [hA];intro i;simp [std]
 have l4:∀ i:Nat,A.lt (Int.ofNat i) (A.len k)=false→k≤i:=by rw [hA];intro i;simp [std]
 have r1:∀ i:Nat,A.lt (Int.ofNat i) (A.len k)=true→A.getN OV (A.idx 0 (Int.ofNat i) 9) 0 9=some [iv (b0 i),iv (b1 i),iv (b2 i),iv (b3 i),iv (b4 i),iv (b5 i),iv (b6 i),.bool (b7 i),.slice (b8 i) (b9 i) (b10 i)]:=by
  intro i hi;have h9:=l3 i hi;rw [hA,hOV,hb0,hb1,hb2,hb3,hb4,hb5,hb6,hb7,hb8,hb9,hb10];exact zp9 ok.len (by omega)
 change Hid _ at hA hk hOV hLO hb0 hb1 hb2 hb3 hb4 hb5 hb6 hb7 hb8 hb9 hb10
 refine zad (D:=ordsS2) (fnO zvd Tryz.func170) 35 (fun w0 own ps R hpl hR kE=>?_)
 refine zah 0 rfl rfl (fun x=>by simp [qB]) (fun x=>?_)
 obtain ⟨LL,hLL⟩:=nm (eOs q.net x.ps++LO);refine zr7 7 2 (L:=eOs q.net x.ps) (L':=LO) rfl rfl rfl rfl ?_;rw [←hLL];change Eng.Good _ _ (Eng.St.mk _ _ [.own 209 [.gsl 3 q.reps.length,.gsl 4 q.net.length,.gsl 5 q.done.length],.grow 226 9 k OV,.dead,.grow 210 1 q.reps.length (x.xs.map ptrV),.grow 226 9 q.net.length (netV q.net x.ps),.grow 45 9 q.done.length (enVs q.done),.obj (poolO (repOs q.reps x.xs)),.obj (poolO LL)]);obtain ⟨n,hn⟩:=nm (q.reps.length);obtain ⟨PV,hPV⟩:=nm (x.xs.map ptrV);obtain ⟨nn,hnn⟩:=nm (q.net.length);obtain ⟨NV,hNV⟩:=nm (netV q.net x.ps);obtain ⟨nd,hnd⟩:=nm (q.done.length);obtain ⟨DV,hDV⟩:=nm (enVs q.done);obtain ⟨L,hL⟩:=nm (repOs q.reps x.xs);rw [←hn,←hPV,←hnn,←hNV,←hnd,←hDV,←hL];obtain ⟨OL,hOL⟩:=nm (poolO L);obtain ⟨OLL,hOLL⟩:=nm (poolO LL);rw [←hOL,←hOLL]
 obtain ⟨NN,hNN⟩:=nm (fun i:Nat=>nn+i)
 obtain ⟨PP,hPP⟩:=nm (fun i:Nat=>NV++netV (out.take i) (qs.take i))
 have hk2:nn+k≤200:=by rw [hnn,hk.out];exact hnet
 have e0:NN 0=nn:=by rw [hNN];rfl
 have e1:PP 0=NV:=by rw [hPP];simp [netV]
 have g1:∀ i:Nat,A.lt (Int.ofNat i) (A.len k)=true→A.le 256 (A.len (NN i))=false:=by
  intro i hi;have:=l3 i hi;rw [hA.out,hNN];simp [std];omega
 have g2:∀ i:Nat,A.lt (Int.ofNat i) (A.len k)=true→A.fits (NN i) 1=true:=by
  intro i hi;have:=l3 i hi;rw [hA.out,hNN];simp [std];omega
 have g3:∀ i:Nat,A.addn (NN i) 1=NN (i+1):=by rw [hA.out,hNN];intro i;simp [std];omega
 have g4:∀ i:Nat,A.lt (Int.ofNat i) (A.len k)=true→A.app (PP i) [iv (b0 i),iv (b1 i),iv (b2 i),iv (b3 i),iv (b4 i),iv (b5 i),iv (b6 i),.bool (b7 i),.slice (b8 i) (b9 i) (b10 i)]=PP (i+1):=by
  intro i hi;have:=l3 i hi;rw [hA.out,hPP,hb0.out,hb1.out,hb2.out,hb3.out,hb4.out,hb5.out,hb6.out,hb7.out,hb8.out,hb9.out,hb10.out];dsimp only;rw [zv8 ok.len (show i<out.length by rw [←hk.out];exact this)];simp [std,msgV]
 change Hid _ at hNN hPP hLL hOL hOLL hn hPV hnn hNV hnd hDV hL;refine kN ?_
 repeat' (conv=>arg 3;try cbv);first
  | (((with_reducible refine kL ?_);refine zas 0 (α:={ i:Nat // i≤k }) [5,9,10,11,12,13,14,15,16,17,18,19,20,21,22,23,24,25,26,27,28,29,30,31,32,33,34,35,36] (fun x=>[(8,.one (.val (.int .i64 (Int.ofNat x.1))))]) (fun x=>[.own 209 [.gsl 3 n,.gsl 4 (NN x.1),.gsl 5 nd],.grow 226 9 k OV,.dead,.grow 210 1 n PV,.grow 226 9 (NN x.1) (PP x.1),.grow 45 9 nd DV,.obj OL,.obj OLL]) (fun x=>k-x.1) ⟨0,Nat.zero_le _⟩ (by cbv;simp) (by dsimp only;simp only [e0,e1]) (fun x=>rfl) (fun x y hy=>za0 hy trivial) rfl (fun x L' hL1 hL2=>?_);obtain ⟨i,hi⟩:=x;dsimp only;refine kN ?_))
  | (((with_reducible refine kA ?_);have hlt:=l3 i (by assumption);have hstep:=l2 i (by assumption);refine zal (l:=[0,1,2,3,10,5,6,7]) ⟨rfl,rfl,rfl⟩ hL2 ⟨i+1,hlt⟩ (show k-(i+1)<k-i by omega) rfl rfl (by rw [hpl];rfl) (zaj (n:=8) rfl) (zav (by cbv<;>trivial)) ⟨(by first|exact .inl rfl|exact .inr rfl),(by first|exact .inl rfl|exact .inr rfl),(by first|exact .inl rfl|exact .inr rfl),(by first|exact .inl rfl|exact .inr rfl),(by first|exact .inl rfl|exact .inr rfl),(by first|exact .inl rfl|exact .inr rfl),(by first|exact .inl rfl|exact .inr rfl),(by first|exact .inl rfl|exact .inr rfl),trivial⟩ (by dsimp only;(try simp only [hstep])<;>cbv<;>try simp)))
  | (((with_reducible refine kZ ?_);have hiN:i=k:=Nat.le_antisymm hi (l4 i (by assumption));subst hiN;have z1:NN i=(q.net++out).length:=by { rw [hNN.out];dsimp only;rw [hnn.out,hk.out,List.length_append] };have z2:PP i=netV (q.net++out) (x.ps++qs):=by { rw [hPP.out];dsimp only;rw [hk.out,List.take_length,List.take_of_length_le (by rw [ok.len];exact Nat.le_refl _),hNV.out,zqa x.ok.len] };have z3:LL=eOs (q.net++out) (x.ps++qs):=by { rw [hLL.out,hLO.out,qcn x.ok.len] };rw [z1,z2,hOL.out,hOLL.out,z3,hn.out,hPV.out,hnd.out,hDV.out,hL.out];refine kK 0 [3,4,5,6,7] (m:=qB { q with net:=q.net++out }) ⟨x.xs,x.ps++qs,x.hx,hbx x⟩ (fun W'=>?_);refine zbp hR 3 (by rfl) (by rfl) (by rfl) (Nat.le_refl 3) ⟨rfl,W',rfl⟩))
  | simp only [FG,g3, *]
  | (split<;>(rename_i hsp;try simp only [FG] at hsp))
end Go.Proofs.YtpigpajgjdcagaaGreat
namespace Go.Proofs.YtpigpajgjdcagaaGreat
open Go.RowKit Eng Go.Lib
theorem Blk.sets {g:Nat} {t:TypeId}:∀ (vs:List Value) (o:Nat) (w:World) (cs:Array Value),Blk w g t cs→o+vs.length≤cs.size →
 ∃ cs',Blk (w.setCells g o vs) g t cs'∧cs'.size=cs.size∧cs'.toList=cs.toList.take o++vs++cs.toList.drop (o+vs.length)
 | [],o,w,cs,h,_=>⟨cs,h,rfl,by simp⟩
 | v :: vs, o, w, cs, h, hl => by
   simp only [List.length_cons] at hl
   obtain ⟨cs',h1,h2,h3⟩:=Blk.sets vs (o+1) _ _ (h.put o v) (by simp;omega)
   refine ⟨cs',h1,by simpa using h2,?_⟩
   rw [h3]
   have ho:o<cs.toList.length:=by simp;omega
   simp only [Array.toList_setIfInBounds,List.length_cons];rw [List.set_eq_take_append_cons_drop,if_pos ho];rw [List.take_append,List.drop_append];simp only [List.length_take,Nat.min_eq_left (Nat.le_of_lt ho)]
   rw [List.take_of_length_le (by simp;omega),show o+1-o=1 by omega,show o+1+vs.length-o=vs.length+1 by omega]
   simp only [List.take_succ_cons,List.take_zero,List.drop_succ_cons,List.append_assoc,List.drop_drop]
   rw [List.drop_eq_nil_of_le (by simp;omega)]
   simp [Nat.add_comm,Nat.add_left_comm]
theorem Gr.sets {g:Nat} {a:World}:∀ (vs:List Value) (o:Nat) (w:World),Gr (fun i=>i=g) a w→Gr (fun i=>i=g) a (w.setCells g o vs)
 | [],_,_,h=>h
 | v::vs,o,w,h=>Gr.sets vs (o+1) _ (h.set (.inl rfl) v)
theorem zkv {P:Program} (w:World) (t e ty:TypeId) (z:Value) (ht:P.underlying t=some (.slice e)) (hv:∀ w,(zeroValue e).run P w=.ok z w) (h1:∀ v∈z.cells.toList,v.oneCell'=true) (hz:0<z.cells.size) (b o c:Nat)
 (hc:∀ j,j<z.cells.size→(w.cell? ⟨b,o+j,none⟩).isSome=true) (hf:∀ j,j<z.cells.size→w.frozen? ⟨b,o+j,none⟩=false) :
 (Builtin.clear_ #[t] ty #[.slice (some ⟨b,o,none⟩) 1 c]).run P w=.ok (.tuple #[]) (w.setCells b o z.cells.toList):=by
 have hzc:(Builtin.zeroCells z.cells 1).toList=z.cells.toList:=by
  simp only [Builtin.zeroCells]
  apply List.ext_getElem
  ·simp
  ·intro i h1 h2
   simp at h1 h2;simp [Nat.mod_eq_of_lt h1,getElem!_pos z.cells i h1]
 have hst:=run_storeCells_cells (P:=P) b o z.cells.toList 0 w (by simpa using hc) (by simpa using hf) h1
 simp only [Nat.add_zero] at hst;simp [Builtin.clear_,run_underlying ht,hv,hzc,hst]
theorem etMsg:ElemT Tryz.prog 207 226 (.agg #[.int .i64 0,.int .i64 0,.int .i64 0,.int .i64 0,.int .i64 0,.int .i64 0,.int .i64 0,.bool false,.slice none 0 0]) 9 88:=ElemT.mk' Tryz.underlying207 (by kernel_rfl) rfl (by decide)
theorem zxd (g cap n:Nat) (w:World) (cur:Array Value) (hb:Blk w g 226 cur) (hs:cur.size=cap * 9) (hn:n+1≤cap) (hcap:cap≤9223372036854775807) (h1:∀ u∈cur.toList.take ((n+1) * 9),u.oneCell'=true) :
 Calls Tryz.prog 240 #[.slice (some ⟨g,0,none⟩) ((n+1:Nat)) cap,.int .i64 0,.int .i64 1] w fun e w'=>e=.returned (.slice (some ⟨g,0,none⟩) n cap)∧Gr (fun i=>i=g) w w'∧∃ cur',Blk w' g 226 cur'∧cur'.size=cap * 9∧cur'.toList.take (n * 9)=(cur.toList.drop 9).take (n * 9):=by
 obtain ⟨news,hnews⟩:∃ news,news=(cur.toList.drop 9).take (n * 9):=⟨_,rfl⟩
 have hlen:news.length=n * 9:=by rw [hnews];simp;omega
 obtain ⟨i0,hi0,hz0,hz1,hz2⟩:=etMsg.info
 obtain ⟨A,hA,hsrc⟩:∃ A:Addr,(if cap=1 then some (⟨g,0,none⟩:Addr) else some ⟨g,9,none⟩)=some A∧RowKit.Hid (∀ t u,news[t]?=some u→w.drew.cell? (A.add t)=some u):=by
  by_cases h:cap=1
  ·refine ⟨⟨g,0,none⟩,by simp [h],Lib.hid fun t u hu=>?_⟩
   have h0:news.length=0:=by rw [hlen];omega
   rw [List.length_eq_zero_iff.1 h0] at hu;simp at hu
  ·refine ⟨⟨g,9,none⟩,by simp [h],Lib.hid fun t u hu=>?_⟩
   rw [Addr.add_lit,hb.drew.cell];rw [hnews,List.getElem?_take] at hu
   split at hu
   ·rw [List.getElem?_drop] at hu
    simpa using hu
   ·cases hu
 have s1:RowKit.Hid (news.length=n * 9):=Lib.hid hlen
 have s2:RowKit.Hid (∀ u∈news,u.oneCell'=true):=by
  refine Lib.hid ?_;intro u hu;refine h1 u ?_;rw [hnews] at hu
  rw [show (n+1) * 9=9+n * 9 by omega,List.take_add]
  exact List.mem_append_right _ hu
 have s3:RowKit.Hid (∀ t,t<news.length→(w.drew.cell? ⟨g,0+0 * 9+t,none⟩).isSome=true∧w.drew.frozen? ⟨g,0+0 * 9+t,none⟩=false):=by
  refine Lib.hid ?_;intro t ht;rw [hlen] at ht;refine ⟨?_,hb.drew.free _⟩
  rw [hb.drew.cell,Array.getElem?_eq_getElem (by omega)]
  rfl
 obtain ⟨W1,hW1⟩:∃ W1,W1=w.drew.setCells g (0+0 * 9) news:=⟨_,rfl⟩
 obtain ⟨c1,hc1,hcs1,hct1⟩:=Blk.sets news (0+0 * 9) w.drew cur hb.drew (by rw [hlen];omega)
 rw [←hW1] at hc1
 have hg1:Gr (fun i=>i=g) w W1:=by rw [hW1];exact Gr.sets _ _ _ (Gr.refl _ w).drew
 have hcl:∀ ty c,(Builtin.clear_ #[207] ty #[.slice (some ⟨g,n * 9,none⟩) 1 c]).run Tryz.prog W1=.ok (.tuple #[]) (W1.setCells g (n * 9) [.int .i64 0,.int .i64 0,.int .i64 0,.int .i64 0,.int .i64 0,.int .i64 0,.int .i64 0,.bool false,.slice none 0 0]) :=
  fun ty c=>zkv W1 _ _ ty _ etMsg.und Tryz.zeroValue226 (by simp [Value.cells,Value.oneCell']) (by simp [Value.cells]) g (n * 9) c (fun j hj=>by rw [hc1.cell,Array.getElem?_eq_getElem (by simp [Value.cells] at hj;omega)];rfl) (fun j hj=>hc1.free _)
 have hW:RowKit.Hid (W1=w.drew.setCells g (0+0 * 9) news):=Lib.hid hW1
 have C1:=Lib.hid hc1
 have C2:=Lib.hid hcs1
 have C3:=Lib.hid hct1
 have G1:=Lib.hid hg1
 have N1:=Lib.hid hnews
 clear hW1 hc1 hcs1 hct1 hg1 hnews hlen h1 hb
 go_enter Tryz.func240,Tryz.ntmps240
 go_wp2_with fail
 have hb1:(1:Int)≤(n:Int)+1:=by omega
 have mixed:(Tryz.prog).follows .mixedOrders=true:=by kernel_rfl
 go_region_law_o (refine step_append_room rfl (.tmp 22) (.tmp 25) 207 rfl 226 i0 9 Tryz.underlying207 hi0 hz1 g 0 0 cap (by simp [Act.eval,Act.put]) A n (cap-1) news (by simp [Act.eval,Act.put]) s1.out hsrc.out s2.out (by omega) s3.out ?_;rw [←hW.out])
 go_wp2_with fail
 go_ret
 obtain ⟨c2,d1,d2,d3⟩:=Blk.sets [Value.int .i64 0,Value.int .i64 0,Value.int .i64 0,Value.int .i64 0,Value.int .i64 0,Value.int .i64 0,Value.int .i64 0,Value.bool false,Value.slice none 0 0] (n * 9) W1 c1 C1.out (by have:=C2.out;simp;omega)
 have e1:news.length=n * 9:=s1.out
 have e2:c1.toList=List.take (0+0 * 9) cur.toList++news++List.drop (0+0 * 9+news.length) cur.toList:=C3.out
 have e3:c1.size=cur.size:=C2.out
 refine ⟨rfl,Gr.sets _ _ _ G1.out,c2,d1,by omega,?_⟩
 rw [←(show news=List.take (n * 9) (List.drop 9 cur.toList) from N1.out),d3,List.append_assoc,List.take_append,List.take_take,Nat.min_self]
 rw [show n * 9-(List.take (n * 9) c1.toList).length=0 by simp;omega,List.take_zero,List.append_nil,e2]
 simp [←e1]
theorem zz6:Goes Tryz.prog 240:=zbe Tryz.func240 (by kernel_rfl) (by kernel_rfl)
theorem qbk (n:Nat) (r l:List Value) (hr:r.length=9) (hl:l.length=n * 9):TriM Tryz.prog 240 [.one (.gsl 0 (n+1)),.one (.val (.int .i64 0)),.one (.val (.int .i64 1))] [.grow 226 9 (n+1) (r++l)] (.one (.gsl 0 n)) [.grow 226 9 n l]:=by
 refine ⟨zz6,fun w0 own ρ w H hargs=>?_⟩
 have hat:=H.blk 0 _ rfl
 obtain ⟨⟨hlen,hrow⟩,h1⟩:=hat
 rcases hrow with ⟨_,h0⟩|⟨g,cap,cur,e,_,hg,hn,hcap,hsz,htk⟩
 ·omega
 have ep:(ρ 0).1=g∧(ρ 0).2=cap+1:=by
  unfold gslV at e
  split at e
  ·simp at e
  ·rename_i c hc
   simp only [Value.slice.injEq,Option.some.injEq,Addr.mk.injEq] at e
   exact ⟨e.1.1,by rw [hc,e.2.2]⟩
 have en:gslV (ρ 0) n=.slice (some ⟨g,0,none⟩) n cap:=by
  unfold gslV;rw [ep.2,←ep.1]
 have ha:(([SV.one (.gsl 0 (n+1)),.one (.val (.int .i64 0)),.one (.val (.int .i64 1))]:List SV).map (concV ρ)).toArray=#[.slice (some ⟨g,0,none⟩) ((n+1:Nat)) cap,.int .i64 0,.int .i64 1]:=by
  simp only [List.map_cons,List.map_nil,concV,conc1,e]
 rw [ha]
 refine (zxd g cap n w cur hg hsz hn (by unfold maxLen at hcap;omega) (by rw [htk];exact h1)).mono ?_
 rintro e w' ⟨rfl,hG,cur',hb',hs',ht'⟩
 have hx:(cur.toList.drop 9).take (n * 9)=l:=by
  have:cur.toList.take ((n+1) * 9)=r++l:=htk
  rw [show (n+1) * 9=9+n * 9 by omega,List.take_add] at this
  exact (List.append_inj this (by simp;omega)).2
 have hB:BlkAt ρ w' (ρ 0) (.grow 226 9 n l):=by
  refine ⟨⟨hl,.inr ⟨g,cap,cur',en,Nat.zero_le _,hb',by omega,hcap,hs',by rw [ht',hx]⟩⟩,fun u hu=>h1 u (by simp [hu])⟩
 refine ⟨.one (.gsl 0 n),[.grow 226 9 n l],ρ,by simp only [concV,conc1,en],⟨rfl,rfl⟩,Nat.zero_lt_one,Nat.le_refl _,fun _ _=>rfl,?_⟩
 refine H.move (fun _=>True) (fun _=>True) id (fun i=>i=g) (fun i hi=>.inl ⟨0,_,trivial,rfl,?_⟩) hG (fun _ _ h=>absurd trivial h) (fun b hb=>?_) (fun _ _ _ h=>absurd trivial h) (fun k b hk _=>?_) (fun k j b c _ _ hk hj hne=>?_)
 ·subst hi
  rw [←ep.1]
  exact MB.wf1 (by simp [MB.wr,ep.2])
 ·rw [List.mem_singleton.1 hb];trivial
 ·cases k with
  | zero =>
    obtain rfl:MB.grow 226 9 n l=b:=by simpa using hk
    exact ⟨hB,fun i hi=>by obtain ⟨_,rfl⟩:=hi;exact ep.1,fun i hi=>by cases hi.1⟩
  | succ k=>simp at hk
 ·cases k with
  | zero =>
    cases j with
    | zero=>exact absurd rfl hne
    | succ j=>simp at hj
  | succ k=>simp at hk
end Go.Proofs.YtpigpajgjdcagaaGreat
namespace Go.Proofs.YtpigpajgjdcagaaGreat
open Go.RowKit Eng
theorem zya (nr nn nc:Nat) (rs l cs:List Value) (r:List Value) (hr:r.length=9) (hl:l.length=nn * 9):TriM Tryz.prog 174 [.one (.ptr 0 0 0),.one (.val (.int .i64 0))] ([.own 209 [.gsl 1 (nr),.gsl 2 (nn+1),.gsl 3 (nc)],.grow 210 1 (nr) (rs),.grow 226 9 (nn+1) (r++l),.grow 45 9 (nc) (cs)]) (.tup []) [.own 209 [.gsl 1 (nr),.gsl 2 (nn),.gsl 3 (nc)],.grow 210 1 (nr) (rs),.grow 226 9 (nn) (l),.grow 45 9 (nc) (cs)]:=by
 obtain ⟨A,hA,FG⟩:=aF
 have td:=qbk nn r l hr hl
 obtain ⟨n1,hn1⟩:=nm (nn+1);obtain ⟨L1,hL1⟩:=nm (r++l);simp only [←hn1,←hL1] at td ⊢
 have f0:A.add .i64 0 1=1:=by rw [hA];rfl
 change Hid _ at hA hn1 hL1
 refine zad (D:=ords174) (fnO zvc Tryz.func174) 13 (fun w0 own ps R hpl hR kE=>?_)
 refine kN ?_
 repeat' (conv=>arg 3;try cbv);first
  | ((with_reducible refine kC ?_);refine nM [.same 2] td ?_)
  | ((with_reducible refine kG ?_);refine kO0 hR 4 ⟨rfl,rfl⟩)
  | ((with_reducible refine kZ ?_);refine zbp hR 4 (by rfl) (by rfl) (by rfl) (Nat.le_refl 4) ⟨rfl,rfl⟩)
  | simp only [*]
  | (split<;>(rename_i hsp;try simp only [FG] at hsp))
end Go.Proofs.YtpigpajgjdcagaaGreat
