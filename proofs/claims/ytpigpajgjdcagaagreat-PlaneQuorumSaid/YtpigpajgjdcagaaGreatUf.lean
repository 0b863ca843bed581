/- Parts. -/
import Derived.Test.YtpigpajgjdcagaaGreatUa
import Derived.Test.YtpigpajgjdcagaaGreatUe
set_option linter.unusedSimpArgs false
set_option linter.unusedVariables false
set_option maxRecDepth 100000
set_option maxHeartbeats 60000000
namespace Go.Proofs.YtpigpajgjdcagaaGreat
open Go.RowKit
structure TenD where
 load:Int
 shadow:Int
 prio:Int
 lag:Int
 allowed:Int
 group:Int
 noisy:Bool
structure CfgD where
 regions:Int
 zones:List Int
 cells:List (Int × Int)
 tens:List TenD
 vers:List (Int × Int)
 reps:List Int
 obs:List Int
 blast:Int
 lease:Int
 bake:Int
structure WinD where
 cell:Int
 epoch:Int
 version:Int
 lo:Int
 hi:Int
 deriving DecidableEq
structure TsD where
 placed:Bool
 shed:Bool
 home:Int
 standby:Int
 next:Int
 target:Int
 epoch:Int
 win:WinD
 deriving DecidableEq
structure CsD where
 mode:Int
 running:Int
 wanted:Int
 since:Int
 deriving DecidableEq
structure StD where
 tick:Int
 count:Int
 tens:List TsD
 cells:List CsD
 proven:Int
 evac:Int
 low:Int
 high:Int
structure EnD where
 kind:Int
 tick:Int
 tenant:Int
 cell:Int
 other:Int
 epoch:Int
 lo:Int
 hi:Int
 n:Int
 deriving DecidableEq
abbrev iv (n:Int):Value:=.int .i64 n
def TenD.cells (t:TenD):List Value:=[iv t.load,iv t.shadow,iv t.prio,iv t.lag,iv t.allowed,iv t.group,.bool t.noisy]
def pairCells (p:Int × Int):List Value:=[iv p.1,iv p.2]
def WinD.cells (x:WinD):List Value:=[iv x.cell,iv x.epoch,iv x.version,iv x.lo,iv x.hi]
def TsD.cells (t:TsD):List Value:=[.bool t.placed,.bool t.shed,iv t.home,iv t.standby,iv t.next,iv t.target,iv t.epoch,iv t.win.cell,iv t.win.epoch,iv t.win.version,iv t.win.lo,iv t.win.hi]
def CsD.cells (x:CsD):List Value:=[iv x.mode,iv x.running,iv x.wanted,iv x.since]
def EnD.cells (e:EnD):Array Value:=#[iv e.kind,iv e.tick,iv e.tenant,iv e.cell,iv e.other,iv e.epoch,iv e.lo,iv e.hi,iv e.n]
def EnD.zero:EnD:=⟨0,0,0,0,0,0,0,0,0⟩
def StD.zero:StD:=⟨0,0,[],[],0,0,0,0⟩
structure CfgH where
 az:Option Addr
 kz:Nat
 ac:Option Addr
 kc:Nat
 at_:Option Addr
 kt:Nat
 av:Option Addr
 kv:Nat
 ar:Option Addr
 kr:Nat
 ao:Option Addr
 ko:Nat
structure CfgAt (w:World) (B:Nat) (c:CfgD) (h:CfgH):Prop where
 zones:Rd w B h.az (c.zones.map iv)
 cells:Rd w B h.ac (c.cells.flatMap pairCells)
 tens:Rd w B h.at_ (c.tens.flatMap TenD.cells)
 vers:Rd w B h.av (c.vers.flatMap pairCells)
 reps:Rd w B h.ar (c.reps.map iv)
 obs:Rd w B h.ao (c.obs.map iv)
structure StH where
 at_:Option Addr
 kt:Nat
 ac:Option Addr
 kc:Nat
structure StAt (w:World) (B:Nat) (s:StD) (h:StH):Prop where
 tens:Rd w B h.at_ (s.tens.flatMap TsD.cells)
 cells:Rd w B h.ac (s.cells.flatMap CsD.cells)
theorem CfgAt.keep {w w':World} {B:Nat} {c:CfgD} {h:CfgH} (H:CfgAt w B c h) (hk:∀ p:Addr,p.block<B→w'.cell? p=w.cell? p):CfgAt w' B c h :=
 ⟨H.zones.keep hk,H.cells.keep hk,H.tens.keep hk,H.vers.keep hk,H.reps.keep hk,H.obs.keep hk⟩
theorem CfgAt.below {w w':World} {B:Nat} {c:CfgD} {h:CfgH} (H:CfgAt w B c h) (hb:Below B w w'):CfgAt w' B c h:=H.keep fun _ hp=>hb.cell hp
theorem CfgAt.more {w:World} {B B':Nat} {c:CfgD} {h:CfgH} (H:CfgAt w B c h) (hB:B≤B'):CfgAt w B' c h :=
 ⟨H.zones.more hB,H.cells.more hB,H.tens.more hB,H.vers.more hB,H.reps.more hB,H.obs.more hB⟩
theorem StAt.keep {w w':World} {B:Nat} {s:StD} {h:StH} (H:StAt w B s h) (hk:∀ p:Addr,p.block<B→w'.cell? p=w.cell? p):StAt w' B s h:=⟨H.tens.keep hk,H.cells.keep hk⟩
theorem StAt.below {w w':World} {B:Nat} {s:StD} {h:StH} (H:StAt w B s h) (hb:Below B w w'):StAt w' B s h:=H.keep fun _ hp=>hb.cell hp
theorem StAt.more {w:World} {B B':Nat} {s:StD} {h:StH} (H:StAt w B s h) (hB:B≤B'):StAt w B' s h:=⟨H.tens.more hB,H.cells.more hB⟩
theorem zpb {α:Type} (f:α→List Value) (k:Nat) (hf:∀ x,(f x).length=k):∀ (l:List α) (i j:Nat) (x:α),l[i]?=some x→j<k→(l.flatMap f)[i * k+j]?=(f x)[j]?
 | [],i,j,x,h,_=>by simp at h
 | y :: l, 0, j, x, h, hj => by
   obtain rfl:y=x:=by simpa using h
   rw [List.flatMap_cons,Nat.zero_mul,Nat.zero_add,List.getElem?_append_left (by rw [hf];exact hj)]
 | y :: l, i + 1, j, x, h, hj => by
   rw [List.flatMap_cons,List.getElem?_append_right (by rw [hf,Nat.succ_mul];omega),hf,show (i+1) * k+j-k=i * k+j by rw [Nat.succ_mul];omega]
   exact zpb f k hf l i j x (by simpa using h) hj
def hasB (set i:Int):Bool:=decide (0≤i) && decide (i<62) && set.toNat.testBit i.toNat
def CfgD.zoneOf (c:CfgD) (k:Int):Int:=if k<0∨(c.cells.length:Int)≤k then -1 else (c.cells.getD k.toNat (0,0)).1
def CfgD.regionOf (c:CfgD) (k:Int):Int:=if c.zoneOf k<0 then -1 else c.zones.getD (c.zoneOf k).toNat 0
def inB (n lo hi:Int):Bool:=decide (lo≤n) && decide (n≤hi)
theorem zbd {n lo hi:Int}:inB n lo hi=true↔lo≤n∧n≤hi:=by simp [inB]
def uT (k:Int):Bool:=inB k 1 8
def uC (k:Int):Bool:=inB k 1 2 || inB k 5 6 || inB k 9 11
def uC' (k:Int):Bool:=inB k 4 4
def uO (k:Int):Bool:=inB k 1 1
def uR (k:Int):Bool:=inB k 13 13
def uE (k:Int):Bool:=inB k 2 3
def uW (k:Int):Bool:=inB k 2 2
def uV (k:Int):Bool:=inB k 2 2 || inB k 10 12
def uB (k:Int):Bool:=inB k 8 8 || inB k 13 13
def uM (k:Int):Bool:=inB k 9 9
def uN (k:Int):Bool:=inB k 16 16
def placesD (e:EnD) (tn cn rn:Int):Bool :=
 (uT e.kind == (e.tenant != -1)) && (!uT e.kind || inB e.tenant 0 (tn-1)) &&
 (!uC e.kind || inB e.cell 0 (cn-1)) && (!uC' e.kind || inB e.cell (-1) (cn-1)) && (uC e.kind || uC' e.kind || e.cell == -1) &&
 (!uO e.kind || (inB e.other (-1) (cn-1) && e.other != e.cell)) && (!uR e.kind || inB e.other 0 (rn-1)) && (uO e.kind || uR e.kind || e.other == -1)
def numbersD (e:EnD) (vn:Int):Bool :=
 (if uE e.kind then inB e.epoch 1 1048576 else e.epoch == 0) &&
 (if uW e.kind then inB e.lo 0 1073741824 && inB e.hi 0 1073741824 else (e.lo == 0 && e.hi == 0)) &&
 (if uV e.kind then inB e.n 0 (vn-1) else if uB e.kind then inB e.n 0 1 else if uM e.kind then inB e.n 1 3 else if uN e.kind then inB e.n 0 1073741824 else e.n == 0)
def rightD (e:EnD) (tn cn rn vn:Int):Bool:=inB e.kind 1 16 && inB e.tick 0 1073741824 && placesD e tn cn rn && numbersD e vn
def validE (c:CfgD) (e:EnD):Bool:=rightD e (min c.tens.length 32) (min c.cells.length 16) (min c.regions 4) (min c.vers.length 30)
def CfgD.mayB (c:CfgD) (t k:Int):Bool:=decide (0≤t) && decide (t<c.tens.length) && hasB ((c.tens[t.toNat]?).map TenD.allowed |>.getD 0) (c.regionOf k)
def CfgD.apartB (c:CfgD) (a b:Int):Bool:=decide (0≤c.regionOf a) && decide (0≤c.regionOf b) && (c.regionOf a != c.regionOf b)
def togB (c:CfgD) (a b:Int):Bool:=decide (0≤a) && decide (0≤b) && !c.apartB a b
instance:Inhabited WinD:=⟨⟨0,0,0,0,0⟩⟩
instance:Inhabited TsD:=⟨⟨false,false,0,0,0,0,0,default⟩⟩
instance:Inhabited CsD:=⟨⟨0,0,0,0⟩⟩
instance:Inhabited TenD:=⟨⟨0,0,0,0,0,0,false⟩⟩
def StD.ten (s:StD) (i:Int):TsD:=s.tens.getD i.toNat default
def StD.cel (s:StD) (i:Int):CsD:=s.cells.getD i.toNat default
def StD.setT (s:StD) (i:Int) (t:TsD):StD:={ s with tens:=s.tens.set i.toNat t }
def StD.setC (s:StD) (i:Int) (x:CsD):StD:={ s with cells:=s.cells.set i.toNat x }
def frozenB (c:CfgD) (s:StD) (k:Int):Bool:=hasB s.evac (c.regionOf k)
def openB (s:StD) (x:CsD):Bool:=!hasB s.proven x.running || !hasB s.proven x.wanted
def addAt (l:List Int) (i n:Int):List Int:=if 0≤i∧i<l.length then l.set i.toNat (l.getD i.toNat 0+n) else l
def bookOne (l:List Int) (t:TsD) (d:TenD):List Int :=
 if t.placed then addAt (addAt (if t.shed then l else addAt (addAt l t.home d.load) t.target d.load) t.standby d.shadow) t.next d.shadow else l
def bookAll:List Int→List TsD→List TenD→List Int
 | l,t::ts,d::ds=>bookAll (bookOne l t d) ts ds
 | l,_,_=>l
def bookedD (c:CfgD) (s:StD):List Int:=bookAll (List.replicate c.cells.length 0) s.tens c.tens
def overD (c:CfgD) (s:StD):List Int:=(List.range c.cells.length).filterMap fun i=>if (c.cells.getD i (0,0)).2<(bookedD c s).getD i 0 then some (i:Int) else none
abbrev Res:=Int × StD
def no (e:Int):Res:=(e,StD.zero)
def fitD (c:CfgD) (s:StD):Res:=if (overD c s).length > 0 then no 10 else (0,s)
def placeD (c:CfgD) (s:StD) (e:EnD):Res :=
 if (s.ten e.tenant).placed then no 4
 else if (s.cel e.cell).mode≠1∨0≤e.other∧(s.cel e.other).mode≠1 then no 6
 else if frozenB c s e.cell=true∨0≤e.other∧frozenB c s e.other=true then no 12
 else if c.mayB e.tenant e.cell=false∨0≤e.other∧(c.mayB e.tenant e.other=false∨togB c e.cell e.other=true) then no 11
 else fitD c (s.setT e.tenant { s.ten e.tenant with placed:=true,home:=e.cell,standby:=e.other })
def grantedD (c:CfgD) (s:StD) (e:EnD):Int :=
 let t:=s.ten e.tenant
 let x:=s.cel e.cell
 if x.mode=3∨x.mode=2∧e.cell≠t.home then 6
 else if e.cell=t.home∧e.epoch≠t.epoch∧e.epoch≠t.epoch+1∨e.cell≠t.home∧e.epoch≠t.epoch+1 then 7
 else if e.n≠x.running∨x.running≠x.wanted then 8
 else if e.lo<e.tick∨e.tick+c.lease<e.lo∨e.hi≤e.lo∨c.lease<e.hi-e.lo∨e.lo<t.win.hi then 9
 else if e.cell≠t.home∧e.tick<t.win.hi then 9 else 0
def grantT (t:TsD) (e:EnD):TsD :=
 let t1:={ t with win:=⟨e.cell,e.epoch,e.n,e.lo,e.hi⟩,epoch:=e.epoch }
 if e.cell=t.home then t1 else if e.cell=t.standby then { t1 with home:=e.cell,standby:=-1,next:=-1,target:=-1,shed:=false } else { t1 with home:=e.cell,target:=-1 }
def grantD (c:CfgD) (s:StD) (e:EnD):Res :=
 let t:=s.ten e.tenant
 if t.placed=false∨t.shed=true∧e.cell≠t.standby then no 4
 else if e.cell≠t.home∧e.cell≠t.standby∧e.cell≠t.target then no 5
 else if grantedD c s e≠0 then no (grantedD c s e)
 else fitD c (s.setT e.tenant (grantT t e))
def cutW (w:WinD) (tick:Int):WinD:={ w with hi:=min w.hi (tick+1),lo:=min w.lo (min w.hi (tick+1)) }
def cutD (s:StD) (e:EnD):Res :=
 let t:=s.ten e.tenant
 if t.placed=false then no 4 else if e.epoch≠t.epoch then no 7 else (0,s.setT e.tenant { t with win:=cutW t.win e.tick })
def standbyD (c:CfgD) (s:StD) (e:EnD):Res :=
 let t:=s.ten e.tenant
 if t.placed=false then no 4
 else if e.cell<0 then fitD c (s.setT e.tenant { t with next:=e.cell })
 else if e.cell=t.home∨e.cell=t.standby∨e.cell=t.target then no 5
 else if (s.cel e.cell).mode≠1 then no 6
 else if frozenB c s e.cell=true then no 12
 else if c.mayB e.tenant e.cell=false∨togB c e.cell t.home=true∨togB c e.cell t.target=true then no 11
 else fitD c (s.setT e.tenant { t with next:=e.cell })
def readyD (s:StD) (e:EnD):Res :=
 let t:=s.ten e.tenant
 if t.placed=false then no 4 else if e.cell≠t.next then no 5 else if (s.cel e.cell).mode=3 then no 6 else (0,s.setT e.tenant { t with standby:=e.cell,next:=-1 })
def migrateD (c:CfgD) (s:StD) (e:EnD):Res :=
 let t:=s.ten e.tenant
 if t.placed=false∨t.shed=true∨0≤t.target then no 4
 else if e.cell=t.home∨e.cell=t.standby∨e.cell=t.next then no 5
 else if (s.cel e.cell).mode≠1 then no 6
 else if frozenB c s e.cell=true then no 12
 else if c.mayB e.tenant e.cell=false∨togB c e.cell t.standby=true∨togB c e.cell t.next=true then no 11
 else fitD c (s.setT e.tenant { t with target:=e.cell })
def abandonD (s:StD) (e:EnD):Res :=
 let t:=s.ten e.tenant
 if t.placed=false∨t.target<0 then no 4 else (0,s.setT e.tenant { t with target:=-1 })
def shedD (c:CfgD) (s:StD) (e:EnD):Res :=
 let t:=s.ten e.tenant
 if e.n=1 then
  if t.placed=false∨t.shed=true then no 4 else if e.tick<t.win.hi then no 9 else (0,s.setT e.tenant { t with shed:=true,target:=-1 })
 else if t.shed=false then no 4 else if (s.cel t.home).mode=3 then no 6 else fitD c (s.setT e.tenant { t with shed:=false })
def modeD (s:StD) (e:EnD):Res:=if (s.cel e.cell).mode=e.n then no 4 else (0,s.setC e.cell { s.cel e.cell with mode:=e.n,since:=e.tick })
def othersD (s:StD) (k:Int):Nat:=((List.range s.cells.length).filter fun (i:Nat)=>(((i:Nat):Int) != k) && openB s (s.cells.getD i default)).length
def wantD (c:CfgD) (s:StD) (e:EnD):Res :=
 let x:=s.cel e.cell
 let v:=c.vers.getD e.n.toNat (0,0)
 if x.wanted=e.n then no 4
 else if s.low<v.1∨v.2<s.high then no 13
 else if e.n≠x.running∧hasB s.proven e.n=false∧s.evac≠0 then no 12
 else if e.n≠x.running∧hasB s.proven e.n=false∧c.blast≤othersD s e.cell then no 14
 else (0,s.setC e.cell { x with wanted:=e.n })
def runsD (s:StD) (e:EnD):Res :=
 let x:=s.cel e.cell
 if e.n≠x.wanted∨x.running=x.wanted then no 4
 else if hasB s.proven e.n=false∧s.evac≠0 then no 12
 else if s.tens.any (fun t=>(t.win.cell == e.cell) && decide (e.tick<t.win.hi)) then no 9
 else (0,s.setC e.cell { x with running:=e.n,since:=e.tick })
def bakes (c:CfgD) (e:EnD) (x:CsD):Bool:=(x.mode != 3) && (x.running == e.n) && (x.wanted == e.n) && decide (c.bake≤e.tick-x.since)
def orBit (s i:Int):Int:=((s.toNat ||| (1 <<< i.toNat):Nat):Int)
def xorBit (s i:Int):Int:=((s.toNat ^^^ (1 <<< i.toNat):Nat):Int)
def proveD (c:CfgD) (s:StD) (e:EnD):Res :=
 if hasB s.proven e.n=true then no 4 else if s.cells.any (bakes c e) then (0,{ s with proven:=orBit s.proven e.n }) else no 15
def evacD (s:StD) (e:EnD):Res:=if hasB s.evac e.other=(e.n == 1) then no 4 else (0,{ s with evac:=xorBit s.evac e.other })
def verHi (c:CfgD) (i:Int):Int:=(c.vers.getD i.toNat (0,0)).2
def expandD (c:CfgD) (s:StD):Res :=
 if s.low<s.high then no 4 else if 30≤s.high then no 2
 else if s.cells.any (fun x=>decide (verHi c x.running≤s.high) || decide (verHi c x.wanted≤s.high)) then no 13 else (0,{ s with high:=s.high+1 })
def contractD (s:StD):Res:=if s.high=s.low then no 4 else (0,{ s with low:=s.high })
def kindD (c:CfgD) (s:StD) (e:EnD):Res :=
 if e.kind=1 then placeD c s e else if e.kind=2 then grantD c s e else if e.kind=3 then cutD s e else if e.kind=4 then standbyD c s e
 else if e.kind=5 then readyD s e else if e.kind=6 then migrateD c s e else if e.kind=7 then abandonD s e else if e.kind=8 then shedD c s e
 else if e.kind=9 then modeD s e else if e.kind=10 then wantD c s e else if e.kind=11 then runsD s e else if e.kind=12 then proveD c s e
 else if e.kind=13 then evacD s e else if e.kind=14 then expandD c s else if e.kind=15 then contractD s else (0,s)
def applyD (c:CfgD) (s:StD) (e:EnD):Res :=
 if validE c e=false then no 1 else if 4096≤s.count then no 2 else if e.tick<s.tick then no 3
 else kindD c { s with tick:=e.tick,count:=s.count+1 } e
def newT:TsD:=⟨false,false,-1,-1,-1,-1,0,⟨-1,0,0,0,0⟩⟩
def newSt (c:CfgD):StD:=⟨0,0,List.replicate c.tens.length newT,List.replicate c.cells.length ⟨1,0,0,0⟩,1,0,0,0⟩
structure TsOk (c:CfgD) (t:TsD):Prop where
 home:-1≤t.home∧t.home<c.cells.length
 standby:-1≤t.standby∧t.standby<c.cells.length
 next:-1≤t.next∧t.next<c.cells.length
 target:-1≤t.target∧t.target<c.cells.length
 epoch:0≤t.epoch∧t.epoch≤1048576
 wcell:-1≤t.win.cell∧t.win.cell<c.cells.length
 wepoch:0≤t.win.epoch∧t.win.epoch≤1048576
 wver:0≤t.win.version∧t.win.version<30
 lo:0≤t.win.lo∧t.win.lo≤1073741825
 hi:0≤t.win.hi∧t.win.hi≤1073741825
 placed:t.placed=true→0≤t.home
 shed:t.shed=true→t.placed=true
structure CsOk (c:CfgD) (x:CsD):Prop where
 mode:1≤x.mode∧x.mode≤3
 running:0≤x.running∧x.running<c.vers.length
 wanted:0≤x.wanted∧x.wanted<c.vers.length
 since:0≤x.since∧x.since≤1073741824
structure StOk (c:CfgD) (s:StD):Prop where
 tick:0≤s.tick∧s.tick≤1073741824
 count:0≤s.count∧s.count≤4096
 tl:s.tens.length=c.tens.length
 cl:s.cells.length=c.cells.length
 ten:∀ t∈s.tens,TsOk c t
 cel:∀ x∈s.cells,CsOk c x
 proven:0≤s.proven∧s.proven<1073741824
 evac:0≤s.evac∧s.evac<16
 low:0≤s.low∧s.low≤s.high
 high:s.high≤30
end Go.Proofs.YtpigpajgjdcagaaGreat
namespace Go.Proofs.YtpigpajgjdcagaaGreat
open Go.RowKit Eng
theorem zc5 {α:Type} (f:α→List Value) (k:Nat) (hf:∀ x,(f x).length=k) (l:List α):(l.flatMap f).length=l.length * k:=by
 induction l with
 | nil=>simp
 | cons x l ih=>simp [List.flatMap_cons,ih,hf];rw [Nat.succ_mul];omega
theorem zz7 {α:Type} (f:α→List Value) (k:Nat) (hf:∀ x,(f x).length=k) {l:List α} {i:Nat} {x:α} (hx:l[i]?=some x) (r:List Value):std.getN (l.flatMap f++r) (i * k) 0 k=some (f x):=by
 have hi:=(List.getElem?_eq_some_iff.1 hx).1
 have hle:i * k+k≤(l.flatMap f).length:=by rw [zc5 f k hf];have:=Nat.mul_le_mul_right k (show i+1≤l.length by omega);rw [Nat.succ_mul] at this;exact this
 simp only [std]
 rw [if_pos (by rw [List.length_append];omega)]
 congr 1
 refine List.ext_getElem? fun j=>?_
 rw [List.getElem?_take]
 split
 ·rename_i hj
  rw [List.getElem?_drop,Nat.add_zero,List.getElem?_append_left (by omega),zpb f k hf l i j x hx hj]
 ·rename_i hj
  rw [List.getElem?_eq_none (by rw [hf];omega)]
theorem qck {α:Type} (f:α→List Value) (k:Nat) (hf:∀ x,(f x).length=k) {l:List α} {i:Nat} {x:α} (hx:l[i]?=some x) (r:List Value) (j:Nat) (hj:j<k):std.get (l.flatMap f++r) (i * k) j=(f x)[j]?:=by
 have hi:=(List.getElem?_eq_some_iff.1 hx).1
 have hle:i * k+k≤(l.flatMap f).length:=by rw [zc5 f k hf];have:=Nat.mul_le_mul_right k (show i+1≤l.length by omega);rw [Nat.succ_mul] at this;exact this
 simp only [std]
 rw [List.getElem?_append_left (by omega),zpb f k hf l i j x hx hj]
theorem wrap64 {n:Int} (h0:-9223372036854775808≤n) (h1:n≤9223372036854775807):IntKind.wrap .i64 n=n:=by
 simp only [IntKind.wrap]
 have:IntKind.bits .i64=64:=rfl
 simp [IntKind.bits,IntKind.signed];omega
theorem za0 {n:Nat} {a y:Nat × SV} (hy:y∈[a]) (ha:a.2.ok n):y.2.ok n:=by
 cases List.mem_singleton.1 hy
 exact ha
theorem qbr {α:Type} (f:α→List Value) (k:Nat) (hf:∀ x,(f x).length=k) {l:List α} {i:Nat} {x x':α} (hx:l[i]?=some x) (r:List Value) (j:Nat) (vs:List Value) (hj:j+vs.length≤k) (he:f x'=(f x).take j++vs++(f x).drop (j+vs.length)) :
 std.set (l.flatMap f++r) (i * k) j vs=some ((l.set i x').flatMap f++r):=by
 have hi:=(List.getElem?_eq_some_iff.1 hx).1
 have hle:i * k+k≤(l.flatMap f).length:=by rw [zc5 f k hf];have:=Nat.mul_le_mul_right k (show i+1≤l.length by omega);rw [Nat.succ_mul] at this;exact this
 simp only [std]
 rw [if_pos (by rw [List.length_append];omega)]
 congr 1
 have key:∀ (l:List α) (i:Nat),l[i]?=some x→(l.flatMap f).take (i * k+j)++vs++(l.flatMap f).drop (i * k+j+vs.length)=(l.set i x').flatMap f:=by
  intro l
  induction l with
  | nil=>intro i h;simp at h
  | cons y l ih =>
    intro i h
    cases i with
    | zero =>
      obtain rfl:y=x:=by simpa using h
      rw [Nat.zero_mul,Nat.zero_add,List.flatMap_cons,List.take_append_of_le_length (by rw [hf];omega),List.drop_append_of_le_length (by rw [hf];omega),List.set_cons_zero,List.flatMap_cons,he]
      simp
    | succ i =>
      have ih':=ih i (by simpa using h)
      rw [List.flatMap_cons,List.set_cons_succ,List.flatMap_cons,←ih',show (i+1) * k+j=(f y).length+(i * k+j) by rw [hf,Nat.succ_mul];omega,List.take_length_add_append,show (f y).length+(i * k+j)+vs.length=(f y).length+(i * k+j+vs.length) by omega,List.drop_length_add_append]
      simp
 rw [←key l i hx,List.take_append_of_le_length (by omega),List.drop_append_of_le_length (by omega)]
 simp
end Go.Proofs.YtpigpajgjdcagaaGreat
namespace Go.Proofs.YtpigpajgjdcagaaGreat
structure TenOk (regions:Int) (t:TenD):Prop where
 load:1≤t.load∧t.load≤65536
 shadow:0≤t.shadow∧t.shadow≤t.load
 prio:0≤t.prio∧t.prio≤9
 lag:-1≤t.lag∧t.lag≤1000
 allowed:1≤t.allowed∧t.allowed<2 ^ regions.toNat
 group:0≤t.group∧t.group≤32
structure CfgOk (c:CfgD):Prop where
 regions:1≤c.regions∧c.regions≤4
 zones:1≤c.zones.length∧c.zones.length≤8
 cells:1≤c.cells.length∧c.cells.length≤16
 vers:1≤c.vers.length∧c.vers.length≤30
 reps:1≤c.reps.length∧c.reps.length≤5∧c.reps.length % 2=1
 obs:1≤c.obs.length∧c.obs.length≤9
 tens:c.tens.length≤32
 blast:1≤c.blast∧c.blast≤16
 lease:1≤c.lease∧c.lease≤1000
 bake:0≤c.bake∧c.bake≤10000
 zoneR:∀ x∈c.zones,0≤x∧x<c.regions
 cellZ:∀ x∈c.cells,(0≤x.1∧x.1<c.zones.length)∧1≤x.2∧x.2≤4194304
 repZ:∀ x∈c.reps,0≤x∧x<c.zones.length
 obsZ:∀ x∈c.obs,0≤x∧x<c.zones.length
 ver:∀ x∈c.vers,0≤x.1∧x.1≤x.2∧x.2≤30
 ver0:∀ x,c.vers[0]?=some x→x.1=0
 ten:∀ x∈c.tens,TenOk c.regions x
end Go.Proofs.YtpigpajgjdcagaaGreat
namespace Go.Proofs.YtpigpajgjdcagaaGreat
open Go.RowKit Eng
namespace Eng
def okS1 (n:Nat):S1→Bool
 | .val _=>true
 | .ptr h _ _=>Nat.blt h n
 | .slc h _ _ _=>Nat.blt h n
 | .gsl h _=>Nat.blt h n
 | .clo _ hs=>hs.all fun h=>Nat.blt h n
 | .gptr h _ _=>Nat.blt h n
 | .rsl h _=>Nat.blt h n
 | .rptr h _ _=>Nat.blt h n
 | .bnd _ h=>Nat.blt h n
def okL1 (n:Nat):List S1→Bool
 | []=>true
 | x::l=>bif okS1 n x then okL1 n l else false
def okT1 (n:Nat):List TV→Bool
 | []=>true
 | .one x::l=>bif okS1 n x then okT1 n l else false
 | .agg x::l=>bif okL1 n x then okT1 n l else false
def okV1 (n:Nat):SV→Bool
 | .one x=>okS1 n x
 | .agg l=>okL1 n l
 | .tup l=>okT1 n l
 | .any=>true
def okA1 (n:Nat):List SV→Bool
 | []=>true
 | v::l=>bif okV1 n v then okA1 n l else false
def okB1 (n:Nat):MB→Bool
 | .own _ l=>okL1 n l
 | .ro l=>okL1 n l
 | _=>true
def okM1 (n:Nat):List MB→Bool
 | []=>true
 | b::l=>bif okB1 n b then okM1 n l else false
theorem zo2 {n:Nat}:∀ {x:S1},okS1 n x=true→x.ok n
 | .val _,_=>trivial
 | .ptr _ _ _,h=>Nat.le_of_ble_eq_true h
 | .slc _ _ _ _,h=>Nat.le_of_ble_eq_true h
 | .gsl _ _,h=>Nat.le_of_ble_eq_true h
 | .clo _ hs,h=>fun k hk=>Nat.le_of_ble_eq_true (List.all_eq_true.1 h k hk)
 | .gptr _ _ _,h=>Nat.le_of_ble_eq_true h
 | .rsl _ _,h=>Nat.le_of_ble_eq_true h
 | .rptr _ _ _,h=>Nat.le_of_ble_eq_true h
 | .bnd _ _,h=>Nat.le_of_ble_eq_true h
theorem zk1 {n:Nat}:∀ {l:List S1},okL1 n l=true→∀ x∈l,x.ok n
 | [],_,x,hx=>by cases hx
 | y :: l, h, x, hx => by
   obtain ⟨h1,h2⟩:=zbs.cond_true' h
   rcases List.mem_cons.1 hx with rfl|hx
   ·exact zo2 h1
   ·exact zk1 h2 x hx
theorem zo1 {n:Nat}:∀ {l:List TV},okT1 n l=true→∀ x∈l,x.ok n
 | [],_,x,hx=>by cases hx
 | .one y :: l, h, x, hx => by
   obtain ⟨h1,h2⟩:=zbs.cond_true' h
   rcases List.mem_cons.1 hx with rfl|hx
   ·exact zo2 h1
   ·exact zo1 h2 x hx
 | .agg y :: l, h, x, hx => by
   obtain ⟨h1,h2⟩:=zbs.cond_true' h
   rcases List.mem_cons.1 hx with rfl|hx
   ·exact zk1 h1
   ·exact zo1 h2 x hx
theorem zb0 {n:Nat}:∀ {v:SV},okV1 n v=true→v.ok n
 | .one _,h=>zo2 h
 | .agg _,h=>zk1 h
 | .tup _,h=>zo1 h
 | .any,_=>trivial
theorem zbc {n:Nat}:∀ {l:List SV},okA1 n l=true→∀ v∈l,v.ok n
 | [],_,x,hx=>by cases hx
 | y :: l, h, x, hx => by
   obtain ⟨h1,h2⟩:=zbs.cond_true' h
   rcases List.mem_cons.1 hx with rfl|hx
   ·exact zb0 h1
   ·exact zbc h2 x hx
theorem zaj {n:Nat}:∀ {l:List MB},okM1 n l=true→∀ b∈l,b.ok n
 | [],_,x,hx=>by cases hx
 | y :: l, h, x, hx => by
   obtain ⟨h1,h2⟩:=zbs.cond_true' h
   rcases List.mem_cons.1 hx with rfl|hx
   ·cases x<;>first|exact zk1 h1|trivial
   ·exact zaj h2 x hx
section
variable {E:Env} {R:Ending→World→Prop}
end
section
variable {E:Env} {R:Ending→World→Prop}
theorem kP (vw:List VW) {f:FuncId} {args args0:List SV} {dst:Option Tmp} {k:List It} {tm:PT} {mem mem0:List MB} {v0:SV} (ht:TriP E.P f args0 mem0 v0) (h:Good E R ⟨k,putE tm dst (mapV (vwS vw mem.length) v0),mem⟩) (hargs:args=mapVs (vwS vw mem.length) args0:=by rfl) (hv:views mem vw mem.length vw mem0:=by ((repeat' (first|exact trivial|exact rfl|exact ⟨rfl,Nat.le_refl _,[],(List.append_nil _).symm⟩|refine ⟨?_,?_⟩));first|done|fail)) (hd:distinct (sameH vw)=true:=by exact rfl) (hcl:clM vw mem0=true:=by exact rfl) (hok:okM1 mem0.length mem0=true:=by exact rfl) (hca:clA vw args0=true:=by exact rfl) (hao:okA1 mem0.length args0=true:=by exact rfl)
 (hcv:clV vw v0=true:=by exact rfl) (hk:headW [] k=true:=by exact rfl):Good E R ⟨.call f args dst::k,tm,mem⟩:=zwz vw ht hargs hv hd hcl (zaj hok) hca (zbc hao) hcv hk h
theorem nP (vw:List VW) {f:FuncId} {args args0:List SV} {dst:Option Tmp} {k:List It} {tm:PT} {mem mem0:List MB} {v0:SV} {A:Ar} (ht:TriP E.P f args0 mem0 v0) (h:Good E R (run A E.T E.D 400 ⟨k,putE tm dst (mapV (vwS vw mem.length) v0),mem⟩)) (hargs:args=mapVs (vwS vw mem.length) args0:=by rfl) (hv:views mem vw mem.length vw mem0:=by ((repeat' (first|exact trivial|exact rfl|exact ⟨rfl,Nat.le_refl _,[],(List.append_nil _).symm⟩|refine ⟨?_,?_⟩));first|done|fail)) (hd:distinct (sameH vw)=true:=by exact rfl) (hcl:clM vw mem0=true:=by exact rfl) (hok:okM1 mem0.length mem0=true:=by exact rfl) (hca:clA vw args0=true:=by exact rfl) (hao:okA1 mem0.length args0=true:=by exact rfl)
 (hcv:clV vw v0=true:=by exact rfl) (hk:headW [] k=true:=by exact rfl) (hE:E.Ok:=by exact ⟨kE.1,kE.2⟩) (hA:A=std:=by first|exact hA.out|exact hA):Good E R ⟨.call f args dst::k,tm,mem⟩:=kP vw ht (kN h hE hA) hargs hv hd hcl hok hca hao hcv hk
theorem kK {k:List It} {tm:PT} {mem:List MB} (h:Nat) (ks:List Nat) {ι:Type} {m:ι→List MB} (x:ι) (hg:∀ W,Good E R ⟨k,tm,setAt (kills mem ks) h (.obj (packO m W))⟩) (hk:softK k=true:=by exact rfl) (hlen:(m x).length=ks.length+1:=by exact rfl) (hd:distinct (h::ks)=true:=by exact rfl) (hat:atL (pi (h::ks)) mem 0 (m x):=by ((repeat' (first|exact trivial|exact rfl|refine ⟨?_,?_⟩));first|done|fail)) (hok:okM1 (m x).length (m x)=true:=by exact rfl):Good E R ⟨k,tm,mem⟩:=zw0 h ks x hk hlen hd hat (zaj hok) hg
end
section
variable {R:Ending→World→Prop} {w0:World} {own:List Nat} {ps:List (Nat × Nat)} {P:Program} {T:List (TypeId × TI)} {D:Ords} {fn:Func} {L:Nat→Act→World→Prop} {n:Nat} {Q:SV→List MB→Prop}
theorem zhd (hR:Ends w0 own ps n Q R) (hE:Env.Ok ⟨P,T,D,fn,w0,own,ps,L⟩) (m:Nat) {r:ResultVar} (hr:fn.results=#[r]) {k:List It} {tm:PT} {mem:List MB} {v:SV} (hv:resE std T tm mem r=some v) (hm:(mem.take m).length=m) (hok:okM1 m (mem.take m)=true) (hle:n≤m) (hvok:okV1 m v=true) (hQ:Q v (mem.take m)):Good ⟨P,T,D,fn,w0,own,ps,L⟩ R ⟨.ret::k,tm,mem⟩ :=
 zx8 hR hE hr hv (mem.take m) (mem.drop m) (List.take_append_drop m mem).symm (by rw [hm];exact zaj hok) (by rw [hm];exact hle) (by rw [hm];exact zb0 hvok) hQ
theorem zdk (hR:Ends w0 own ps n Q R) (hE:Env.Ok ⟨P,T,D,fn,w0,own,ps,L⟩) (m:Nat) {r s:ResultVar} (hr:fn.results=#[r,s]) {k:List It} {tm:PT} {mem:List MB} {v u:SV} (hv:resE std T tm mem r=some v) (hu:resE std T tm mem s=some u) (h1:(tvO v).sv=v) (h2:(tvO u).sv=u) (hm:(mem.take m).length=m) (hok:okM1 m (mem.take m)=true) (hle:n≤m) (hvok:okV1 m (.tup [tvO v,tvO u])=true) (hQ:Q (.tup [tvO v,tvO u]) (mem.take m)):Good ⟨P,T,D,fn,w0,own,ps,L⟩ R ⟨.ret::k,tm,mem⟩ :=
 zx7 hR hE hr hv hu h1 h2 (mem.take m) (mem.drop m) (List.take_append_drop m mem).symm (by rw [hm];exact zaj hok) (by rw [hm];exact hle) (by rw [hm];exact zb0 hvok) hQ
theorem zyf (hR:Ends w0 own ps n Q R) (m:Nat) (hr:fn.results=#[]) {k:List It} {tm:PT} {mem:List MB} (hm:(mem.take m).length=m) (hok:okM1 m (mem.take m)=true) (hle:n≤m) (hQ:Q (.tup []) (mem.take m)):Good ⟨P,T,D,fn,w0,own,ps,L⟩ R ⟨.ret::k,tm,mem⟩ :=
 zx9 hR hr (mem.take m) (mem.drop m) (List.take_append_drop m mem).symm (by rw [hm];exact zaj hok) (by rw [hm];exact hle) hQ
theorem zbp (hR:Ends w0 own ps n Q R) (m:Nat) (hr:fn.results=#[]) {tm:PT} {mem:List MB} (hm:(mem.take m).length=m) (hok:okM1 m (mem.take m)=true) (hle:n≤m) (hQ:Q (.tup []) (mem.take m)):Good ⟨P,T,D,fn,w0,own,ps,L⟩ R ⟨[],tm,mem⟩ :=
 zyn hR hr (mem.take m) (mem.drop m) (List.take_append_drop m mem).symm (by rw [hm];exact zaj hok) (by rw [hm];exact hle) hQ
theorem kO1 (hR:Ends w0 own ps n Q R) (m:Nat) {r:ResultVar} {k:List It} {tm:PT} {mem:List MB} {v:SV} (hQ:Q v (mem.take m)) (hr:fn.results=#[r]:=by rfl) (hv:resE std T tm mem r=some v:=by rfl) (hm:(mem.take m).length=m:=by rfl) (hok:okM1 m (mem.take m)=true:=by rfl) (hle:n≤m:=by first|exact Nat.le_refl _|exact Nat.le_of_ble_eq_true rfl|simp) (hvok:okV1 m v=true:=by rfl) (hE:Env.Ok ⟨P,T,D,fn,w0,own,ps,L⟩:=by exact ⟨kE.1,kE.2⟩):Good ⟨P,T,D,fn,w0,own,ps,L⟩ R ⟨.ret::k,tm,mem⟩:=zhd hR hE m hr hv hm hok hle hvok hQ
theorem kO0 (hR:Ends w0 own ps n Q R) (m:Nat) {k:List It} {tm:PT} {mem:List MB} (hQ:Q (.tup []) (mem.take m)) (hr:fn.results=#[]:=by rfl) (hm:(mem.take m).length=m:=by rfl) (hok:okM1 m (mem.take m)=true:=by rfl) (hle:n≤m:=by first|exact Nat.le_refl _|exact Nat.le_of_ble_eq_true rfl|simp):Good ⟨P,T,D,fn,w0,own,ps,L⟩ R ⟨.ret::k,tm,mem⟩:=zyf hR m hr hm hok hle hQ
end
end Eng
theorem zo5 {i:Int} {n:Nat} (h:std.inb i n=true):0≤i∧i.toNat<n:=by simp [std] at h;omega
theorem getD_some {α:Type} {l:List α} {i:Nat} (h:i<l.length) (d:α):l[i]?=some (l.getD i d):=by simp [h]
theorem rowF {α:Type} (f:α→List Value) (k:Nat) (hf:∀ x,(f x).length=k) (l:List α) (d:α) (j:Nat) (hj:j<k) (i:Int) (h:std.inb i l.length=true):std.get (l.flatMap f) (std.idx 0 i k) j=(f (l.getD i.toNat d))[j]?:=by
 have h1:=zo5 h
 have:=qck f k hf (getD_some h1.2 d) [] j hj
 rw [List.append_nil] at this
 rw [show std.idx 0 i k=i.toNat * k by simp [std]]
 exact this
theorem rowN {α:Type} (f:α→List Value) (k:Nat) (hf:∀ x,(f x).length=k) (l:List α) (d:α) (i:Int) (h:std.inb i l.length=true):std.getN (l.flatMap f) (std.idx 0 i k) 0 k=some (f (l.getD i.toNat d)):=by
 have h1:=zo5 h
 have:=zz7 f k hf (getD_some h1.2 d) []
 rw [List.append_nil] at this
 rw [show std.idx 0 i k=i.toNat * k by simp [std]]
 exact this
theorem zhi {α:Type} (f:α→Value) (l:List α):l.map f=l.flatMap fun x=>[f x]:=by induction l<;>simp_all
structure CfgL where
 zl:Nat
 cl:Nat
 tl:Nat
 vl:Nat
 rl:Nat
 ol:Nat
 zs:List Value
 cs:List Value
 ts:List Value
 vs:List Value
 rs:List Value
 os:List Value
 zone:Int→Int
 czone:Int→Int
 ccap:Int→Int
 load:Int→Int
 shadow:Int→Int
 prio:Int→Int
 lag:Int→Int
 allowed:Int→Int
 group:Int→Int
 noisy:Int→Bool
 vlow:Int→Int
 vhigh:Int→Int
 rep:Int→Int
 ob:Int→Int
def CfgD.L (c:CfgD):CfgL where
 zl:=c.zones.length
 cl:=c.cells.length
 tl:=c.tens.length
 vl:=c.vers.length
 rl:=c.reps.length
 ol:=c.obs.length
 zs:=c.zones.map iv
 cs:=c.cells.flatMap pairCells
 ts:=c.tens.flatMap TenD.cells
 vs:=c.vers.flatMap pairCells
 rs:=c.reps.map iv
 os:=c.obs.map iv
 zone i:=c.zones.getD i.toNat 0
 czone i:=(c.cells.getD i.toNat (0,0)).1
 ccap i:=(c.cells.getD i.toNat (0,0)).2
 load i:=(c.tens.getD i.toNat default).load
 shadow i:=(c.tens.getD i.toNat default).shadow
 prio i:=(c.tens.getD i.toNat default).prio
 lag i:=(c.tens.getD i.toNat default).lag
 allowed i:=(c.tens.getD i.toNat default).allowed
 group i:=(c.tens.getD i.toNat default).group
 noisy i:=(c.tens.getD i.toNat default).noisy
 vlow i:=(c.vers.getD i.toNat (0,0)).1
 vhigh i:=(c.vers.getD i.toNat (0,0)).2
 rep i:=c.reps.getD i.toNat 0
 ob i:=c.obs.getD i.toNat 0
def cfgS (K:CfgL) (c:CfgD):SV:=.agg [.val (iv c.regions),.rsl 0 K.zl,.rsl 1 K.cl,.rsl 2 K.tl,.rsl 3 K.vl,.rsl 4 K.rl,.rsl 5 K.ol,.val (iv c.blast),.val (iv c.lease),.val (iv c.bake)]
def cfgM (K:CfgL):List MB:=[.rs K.zl K.zs,.rs K.cl K.cs,.rs K.tl K.ts,.rs K.vl K.vs,.rs K.rl K.rs,.rs K.ol K.os]
def CfgF (A:Ar) (K:CfgL):Prop :=
 (∀ i,A.inb i K.zl=true→A.get K.zs (A.idx 0 i 1) 0=some (iv (K.zone i)))∧(∀ i,A.inb i K.zl=true→A.getN K.zs (A.idx 0 i 1) 0 1=some [iv (K.zone i)]) ∧
 (∀ i,A.inb i K.cl=true→A.get K.cs (A.idx 0 i 2) 0=some (iv (K.czone i)))∧(∀ i,A.inb i K.cl=true→A.get K.cs (A.idx 0 i 2) 1=some (iv (K.ccap i)))∧(∀ i,A.inb i K.cl=true→A.getN K.cs (A.idx 0 i 2) 0 2=some [iv (K.czone i),iv (K.ccap i)]) ∧
 (∀ i,A.inb i K.tl=true→A.get K.ts (A.idx 0 i 7) 0=some (iv (K.load i)))∧(∀ i,A.inb i K.tl=true→A.get K.ts (A.idx 0 i 7) 1=some (iv (K.shadow i)))∧(∀ i,A.inb i K.tl=true→A.get K.ts (A.idx 0 i 7) 2=some (iv (K.prio i)))∧(∀ i,A.inb i K.tl=true→A.get K.ts (A.idx 0 i 7) 4=some (iv (K.allowed i))) ∧
 (∀ i,A.inb i K.tl=true→A.getN K.ts (A.idx 0 i 7) 0 7=some [iv (K.load i),iv (K.shadow i),iv (K.prio i),iv (K.lag i),iv (K.allowed i),iv (K.group i),.bool (K.noisy i)]) ∧
 (∀ i,A.inb i K.vl=true→A.get K.vs (A.idx 0 i 2) 0=some (iv (K.vlow i)))∧(∀ i,A.inb i K.vl=true→A.get K.vs (A.idx 0 i 2) 1=some (iv (K.vhigh i)))∧(∀ i,A.inb i K.vl=true→A.getN K.vs (A.idx 0 i 2) 0 2=some [iv (K.vlow i),iv (K.vhigh i)]) ∧
 (∀ i,A.inb i K.rl=true→A.get K.rs (A.idx 0 i 1) 0=some (iv (K.rep i)))∧(∀ i,A.inb i K.ol=true→A.get K.os (A.idx 0 i 1) 0=some (iv (K.ob i)))
theorem cfgF {A:Ar} (hA:A=std) {c:CfgD} {K:CfgL} (hK:K=c.L):CfgF A K:=by
 subst hA hK
 have z:=fun j hj i hi=>rowF (fun x:Int=>[iv x]) 1 (fun _=>rfl) c.zones 0 j hj i hi
 have zN:=fun i hi=>rowN (fun x:Int=>[iv x]) 1 (fun _=>rfl) c.zones 0 i hi
 have r:=fun j hj i hi=>rowF (fun x:Int=>[iv x]) 1 (fun _=>rfl) c.reps 0 j hj i hi
 have o:=fun j hj i hi=>rowF (fun x:Int=>[iv x]) 1 (fun _=>rfl) c.obs 0 j hj i hi
 rw [←zhi] at z zN r o
 exact ⟨z 0 (by omega),zN,rowF pairCells 2 (fun _=>rfl) c.cells (0,0) 0 (by omega),rowF pairCells 2 (fun _=>rfl) c.cells (0,0) 1 (by omega),rowN pairCells 2 (fun _=>rfl) c.cells (0,0),
  rowF TenD.cells 7 (fun _=>rfl) c.tens default 0 (by omega),rowF TenD.cells 7 (fun _=>rfl) c.tens default 1 (by omega),rowF TenD.cells 7 (fun _=>rfl) c.tens default 2 (by omega),rowF TenD.cells 7 (fun _=>rfl) c.tens default 4 (by omega),rowN TenD.cells 7 (fun _=>rfl) c.tens default,
  rowF pairCells 2 (fun _=>rfl) c.vers (0,0) 0 (by omega),rowF pairCells 2 (fun _=>rfl) c.vers (0,0) 1 (by omega),rowN pairCells 2 (fun _=>rfl) c.vers (0,0),r 0 (by omega),o 0 (by omega)⟩
structure StL where
 tl:Nat
 cl:Nat
 ts:List Value
 cs:List Value
 placed:Int→Bool
 shed:Int→Bool
 home:Int→Int
 standby:Int→Int
 next:Int→Int
 target:Int→Int
 epoch:Int→Int
 wcell:Int→Int
 wepoch:Int→Int
 wver:Int→Int
 wlo:Int→Int
 whi:Int→Int
 mode:Int→Int
 running:Int→Int
 wanted:Int→Int
 since:Int→Int
def StD.L (s:StD):StL where
 tl:=s.tens.length
 cl:=s.cells.length
 ts:=s.tens.flatMap TsD.cells
 cs:=s.cells.flatMap CsD.cells
 placed i:=(s.ten i).placed
 shed i:=(s.ten i).shed
 home i:=(s.ten i).home
 standby i:=(s.ten i).standby
 next i:=(s.ten i).next
 target i:=(s.ten i).target
 epoch i:=(s.ten i).epoch
 wcell i:=(s.ten i).win.cell
 wepoch i:=(s.ten i).win.epoch
 wver i:=(s.ten i).win.version
 wlo i:=(s.ten i).win.lo
 whi i:=(s.ten i).win.hi
 mode i:=(s.cel i).mode
 running i:=(s.cel i).running
 wanted i:=(s.cel i).wanted
 since i:=(s.cel i).since
def stS (b:Nat) (S:StL) (s:StD):SV:=.agg [.val (iv s.tick),.val (iv s.count),.rsl b S.tl,.rsl (b+1) S.cl,.val (iv s.proven),.val (iv s.evac),.val (iv s.low),.val (iv s.high)]
def stM (S:StL):List MB:=[.rs S.tl S.ts,.rs S.cl S.cs]
def tsRow (S:StL) (i:Int):List Value:=[.bool (S.placed i),.bool (S.shed i),iv (S.home i),iv (S.standby i),iv (S.next i),iv (S.target i),iv (S.epoch i),iv (S.wcell i),iv (S.wepoch i),iv (S.wver i),iv (S.wlo i),iv (S.whi i)]
def csRow (S:StL) (i:Int):List Value:=[iv (S.mode i),iv (S.running i),iv (S.wanted i),iv (S.since i)]
def StF (A:Ar) (S:StL):Prop :=
 (∀ i,A.inb i S.tl=true→A.get S.ts (A.idx 0 i 12) 0=some (.bool (S.placed i)))∧(∀ i,A.inb i S.tl=true→A.get S.ts (A.idx 0 i 12) 1=some (.bool (S.shed i)))∧(∀ i,A.inb i S.tl=true→A.get S.ts (A.idx 0 i 12) 2=some (iv (S.home i)))∧(∀ i,A.inb i S.tl=true→A.get S.ts (A.idx 0 i 12) 3=some (iv (S.standby i))) ∧
 (∀ i,A.inb i S.tl=true→A.get S.ts (A.idx 0 i 12) 4=some (iv (S.next i)))∧(∀ i,A.inb i S.tl=true→A.get S.ts (A.idx 0 i 12) 5=some (iv (S.target i)))∧(∀ i,A.inb i S.tl=true→A.get S.ts (A.idx 0 i 12) 6=some (iv (S.epoch i)))∧(∀ i,A.inb i S.tl=true→A.get S.ts (A.idx 0 i 12) 7=some (iv (S.wcell i)))∧(∀ i,A.inb i S.tl=true→A.get S.ts (A.idx 0 i 12) 11=some (iv (S.whi i))) ∧
 (∀ i,A.inb i S.tl=true→A.getN S.ts (A.idx 0 i 12) 0 12=some (tsRow S i)) ∧
 (∀ i,A.inb i S.cl=true→A.get S.cs (A.idx 0 i 4) 0=some (iv (S.mode i)))∧(∀ i,A.inb i S.cl=true→A.get S.cs (A.idx 0 i 4) 1=some (iv (S.running i)))∧(∀ i,A.inb i S.cl=true→A.get S.cs (A.idx 0 i 4) 2=some (iv (S.wanted i)))∧(∀ i,A.inb i S.cl=true→A.get S.cs (A.idx 0 i 4) 3=some (iv (S.since i))) ∧
 (∀ i,A.inb i S.cl=true→A.getN S.cs (A.idx 0 i 4) 0 4=some (csRow S i))
theorem stF {A:Ar} (hA:A=std) {s:StD} {S:StL} (hS:S=s.L):StF A S:=by
 subst hA hS
 have t:=fun j hj i hi=>rowF TsD.cells 12 (fun _=>rfl) s.tens default j hj i hi
 have k:=fun j hj i hi=>rowF CsD.cells 4 (fun _=>rfl) s.cells default j hj i hi
 exact ⟨t 0 (by omega),t 1 (by omega),t 2 (by omega),t 3 (by omega),t 4 (by omega),t 5 (by omega),t 6 (by omega),t 7 (by omega),t 11 (by omega),rowN TsD.cells 12 (fun _=>rfl) s.tens default,k 0 (by omega),k 1 (by omega),k 2 (by omega),k 3 (by omega),rowN CsD.cells 4 (fun _=>rfl) s.cells default⟩
def enS (e:EnD):SV:=.agg [.val (iv e.kind),.val (iv e.tick),.val (iv e.tenant),.val (iv e.cell),.val (iv e.other),.val (iv e.epoch),.val (iv e.lo),.val (iv e.hi),.val (iv e.n)]
def Hid (p:Prop):Prop:=p
theorem Hid.out {p:Prop} (h:Hid p):p:=h
theorem Hid.mk {p:Prop} (h:p):Hid p:=h
theorem fF {A:Ar} {a b:Int} (h:A=std) (k:¬ a<b):A.lt a b=false:=by rw [h];exact decide_eq_false k
theorem fT {A:Ar} {a b:Int} (h:A=std) (k:a<b):A.lt a b=true:=by rw [h];exact decide_eq_true k
theorem gF {A:Ar} {a b:Int} (h:A=std) (k:¬ a≤b):A.le a b=false:=by rw [h];exact decide_eq_false k
abbrev GenF (A:Ar):Prop:=A.not true=false∧A.not false=true∧A.beq true true=true∧A.beq true false=false∧A.beq false true=false∧A.beq false false=true∧(∀ n,A.capok n n=true)∧(∀ n,A.eqn n n=true)∧(∀ n,A.addn 0 n=n)∧(∀ l,A.app [] l=l)∧(∀ v w,A.sel true v w=v)∧(∀ v w,A.sel false v w=w)∧(∀ b,(A.not b=true)=(b=false))∧(∀ b,(A.not b=false)=(b=true))∧(∀ a b,(A.sel a b false=true)=(a=true∧b=true))∧(∀ a b,(A.sel a true b=false)=(a=false∧b=false))
theorem genF {A:Ar} (hA:A=std):GenF A:=by
 subst hA
 exact ⟨rfl,rfl,rfl,rfl,rfl,rfl,fun n=>by simp [std],fun n=>by simp [std],fun n=>by simp [std],fun l=>by simp [std],fun v w=>rfl,fun v w=>rfl,fun b=>by cases b<;>simp [std],fun b=>by cases b<;>simp [std],fun a b=>by cases a<;>cases b<;>simp [std],fun a b=>by cases a<;>cases b<;>simp [std]⟩
theorem aF:∃ A:Ar,A=std∧GenF A:=⟨std,rfl,genF rfl⟩
theorem kH {p:Prop} (h:p):Hid p:=h
abbrev vB (b:Bool):SV:=.one (.val (.bool b))
abbrev vI (n:Int):SV:=.one (.val (.int .i64 n))
theorem nt {A:Ar} {b:Bool} (hA:A=std) (h:A.not b=true):b=false:=by subst hA;simpa [std] using h
structure FormD where
 t0:Int:=-1
 t1:Int:=-1
 c0:Int:=-1
 c1:Int:=-1
 o0:Int:=-1
 o1:Int:=-1
 e0:Int:=0
 e1:Int:=0
 k0:Int:=0
 k1:Int:=0
 n0:Int:=0
 n1:Int:=0
 ok:Bool:=true
def formP (k tn cn rn vn:Int):FormD :=
 if k=1 then { t0:=0,t1:=tn-1,c0:=0,c1:=cn-1,o1:=cn-1 }
 else if k=2 then { t0:=0,t1:=tn-1,c0:=0,c1:=cn-1,e0:=1,e1:=1048576,k1:=1073741824,n1:=vn-1 }
 else if k=3 then { t0:=0,t1:=tn-1,e0:=1,e1:=1048576 }
 else if k=4 then { t0:=0,t1:=tn-1,c1:=cn-1 }
 else if k=5 then { t0:=0,t1:=tn-1,c0:=0,c1:=cn-1 }
 else if k=6 then { t0:=0,t1:=tn-1,c0:=0,c1:=cn-1 }
 else if k=7 then { t0:=0,t1:=tn-1 }
 else if k=8 then { t0:=0,t1:=tn-1,n1:=1 }
 else if k=9 then { c0:=0,c1:=cn-1,n0:=1,n1:=3 }
 else if k=10 then { c0:=0,c1:=cn-1,n1:=vn-1 }
 else if k=11 then { c0:=0,c1:=cn-1,n1:=vn-1 }
 else if k=12 then { n1:=vn-1 }
 else if k=13 then { o0:=0,o1:=rn-1,n1:=1 }
 else if k=14 then {} else if k=15 then {}
 else if k=16 then { n1:=1073741824 }
 else { t0:=0,t1:=0,c0:=0,c1:=0,o0:=0,o1:=0,ok:=false }
def FormD.sv (F:FormD):SV:=.tup [.agg [.val (iv F.t0),.val (iv F.t1),.val (iv F.c0),.val (iv F.c1),.val (iv F.o0),.val (iv F.o1),.val (iv F.e0),.val (iv F.e1),.val (iv F.k0),.val (iv F.k1),.val (iv F.n0),.val (iv F.n1)],.one (.val (.bool F.ok))]
def fitsP (e:EnD) (tn cn rn vn:Int):Bool :=
 let F:=formP e.kind tn cn rn vn
 if F.ok=false∨e.kind=1∧e.other=e.cell then false else
 decide (0≤e.tick) && decide (e.tick≤1073741824) && inB e.tenant F.t0 F.t1 && inB e.cell F.c0 F.c1 && inB e.other F.o0 F.o1 && inB e.epoch F.e0 F.e1 && inB e.lo F.k0 F.k1 && inB e.hi F.k0 F.k1 && inB e.n F.n0 F.n1
def shapeP (e:EnD):Bool:=fitsP e 32 16 4 30
def validP (K:CfgL) (c:CfgD) (e:EnD):Bool:=shapeP e && fitsP e K.tl K.cl c.regions K.vl
def booksP (e:EnD):Bool:=if e.kind=1∨e.kind=6∨e.kind=2 then true else if e.kind=4 then !(e.cell == -1) else if e.kind=8 then e.n == 0 else false
theorem za3 {i n:Nat} (h:i<n) (hn:n≤1000000):std.add .i64 (Int.ofNat i) 1=Int.ofNat (i+1):=(wrap64 (by simp;omega) (by simp;omega)).trans (by simp)
end Go.Proofs.YtpigpajgjdcagaaGreat
