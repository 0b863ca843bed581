/- Parts. -/
import Derived.Test.YtpigpajgjdcagaaGreatRows
import Derived.WalkKit
import Derived.ProofKit
import Derived.Deep.Quiet
import Derived.Deep.QuietTactic
import Derived.BigQuiet
import Derived.StillTail
import Derived.Deep.RegionHeld3
import Derived.Laws.MakeOwn
import Derived.Maps.AppendAt
import Derived.Deep.AppendLies
import Derived.RegionTactic
import Derived.Deep.Draws
import Derived.Lib.Hide
import Derived.Deep.MidRow
import Derived.Laws.CopyRow
set_option linter.unusedSimpArgs false
set_option linter.unusedVariables false
set_option maxRecDepth 100000
set_option maxHeartbeats 60000000
namespace Go.Proofs.YtpigpajgjdcagaaGreat
open Go.ChangeShapes Go.WideShapes Go.ChangeAt Go.RowKit
section
variable {H:Type} {enc:TypeId × Value→H} {P:Program}
theorem zkj {W W':World} (hl:laidOutB P=true) (hb:Below W.heap.size W W') :
 ∀ (ts : List TypeId) (vs : List Value) (ds : List (DataW H)) (ps : List MemPlace), ts.all (fun t => P.readableRec t && decide (t < P.types.size)) = true →
   DataW.TrodAll enc P W 0 (fun _=>true) true ts vs ds ps→(∀ x∈ps,x.block<W.heap.size) →
   DataW.TrodAll enc P W' 0 (fun b=>decide (b<W.heap.size)) true ts vs ds ps:=by
 intro ts
 induction ts with
 | nil =>
   intro vs ds ps _ h _
   cases vs<;>cases ds<;>simp_all [DataW.TrodAll]
 | cons t ts ih =>
   intro vs ds ps hr h hlt;simp only [List.all_cons,Bool.and_eq_true,decide_eq_true_eq] at hr
   cases vs with
   | nil=>simp [DataW.TrodAll] at h
   | cons v vs =>
     cases ds with
     | nil=>simp [DataW.TrodAll] at h
     | cons d ds =>
       obtain ⟨p,q,h1,h2,rfl⟩:=h
       exact ⟨p,q,Below.trod hl hr.1.1 hr.1.2 h1 hb (fun x hx=>hlt x (List.mem_append_left _ hx)),ih vs ds q hr.2 h2 (fun x hx=>hlt x (List.mem_append_right _ hx)),rfl⟩
theorem zjh {w:World} {base:Nat} {spare:Nat→Bool} {held:Bool}:∀ (ts:List TypeId) (vs:List Value) (ds:List (DataW H)) (ps:List MemPlace),
 DataW.TrodAll enc P w base spare held ts vs ds ps→ds.length=ts.length:=by
 intro ts
 induction ts with
 | nil=>intro vs ds ps h;cases vs<;>cases ds<;>simp_all [DataW.TrodAll]
 | cons t ts ih =>
   intro vs ds ps h
   cases vs with
   | nil=>simp [DataW.TrodAll] at h
   | cons v vs =>
     cases ds with
     | nil=>simp [DataW.TrodAll] at h
     | cons d ds =>
       obtain ⟨p,q,h1,h2,rfl⟩:=h;simp [ih vs ds q h2]
theorem zzo {f:Func} {s:ChangeSpec} {W W':World} {args:Array Value} {ds gs:List (DataW H)} {before:List MemPlace} {tb:TypeId}
 (hl:laidOutB P=true) (hr:f.params.toList.all (fun t=>P.readableRec t && decide (t<P.types.size))=true)
 (hres:f.resultTypes=#[tb]) (htb:P.underlying tb=some .bool) (hv:s.vars=[])
 (hfn:∀ xs:List (DataW H),xs.length=f.params.toList.length→s.fn H xs={ results:=[.lit (.bool true)],args:=xs })
 (hW:DataW.Whole enc P f.params.toList s.vars false W args.toList ds gs before) (hb:Below W.heap.size W W') :
 s.post enc P f false true false false W args (.bool true) W':=by
 have hW0:=hW
 obtain ⟨p,q,hA,hV,rfl,_,_⟩:=hW;rw [hv] at hV;obtain ⟨rfl,rfl⟩:=trodVars_none hV
 have hlen:=zjh _ _ _ _ hA
 have e:=hfn (ds++[]) (by simpa using hlen)
 have hlt:∀ x∈p,x.block<W.heap.size:=fun x hx=>hW0.lt x (by simpa using hx)
 refine ⟨ds,[],p++[],[],p,[],hW0,?_,?_,?_,hb.frame _,fun h=>by cases h⟩
 ·rw [e,hres]
  exact ⟨[],[],shut_bool htb true,rfl,rfl⟩
 ·rw [e]
  simpa using zkj hl hb _ _ _ _ hr hA hlt
 ·rw [e,hv]
  rfl
end
def Blk (w:World) (g:Nat) (t:TypeId) (cs:Array Value):Prop:=w.heap[g]?=some (.cells cs t (0,0))
section
variable {w w':World} {g:Nat} {t:TypeId} {cs:Array Value}
theorem Blk.lt (h:Blk w g t cs):g<w.heap.size:=by
 unfold Blk at h;exact (Array.getElem?_eq_some_iff.1 h).1
theorem Blk.cell (h:Blk w g t cs) (i:Nat):w.cell? ⟨g,i,none⟩=cs[i]?:=cell_of_row w g i cs t (0,0) h
theorem Blk.free (h:Blk w g t cs) (i:Nat):w.frozen? ⟨g,i,none⟩=false:=by
 unfold Blk at h;simp [World.frozen?,h]
theorem Blk.put (h:Blk w g t cs) (i:Nat) (u:Value):Blk (w.setCell ⟨g,i,none⟩ u) g t (cs.setIfInBounds i u):=by
 unfold Blk at h ⊢;simp [World.setCell,Array.getElem?_modify,h]
theorem Blk.far (h:Blk w g t cs) {p:Addr} (hp:g≠p.block) (u:Value):Blk (w.setCell p u) g t cs:=(Below.heap_setCell w p u g hp).trans h
theorem Blk.alloc (h:Blk w g t cs) (o:Obj):Blk (w.alloc o) g t cs:=(Below.heap_alloc w o g h.lt).trans h
theorem Blk.drew (h:Blk w g t cs):Blk w.drew g t cs:=h
theorem Blk.below {B:Nat} (h:Blk w g t cs) (hb:Below B w w') (hg:g<B):Blk w' g t cs:=(hb.block g hg).trans h
theorem Blk.new (w:World) (t:TypeId) (cs:Array Value):Blk (w.alloc (.cells cs t)) w.heap.size t cs:=heap_alloc_new w _
end
end Go.Proofs.YtpigpajgjdcagaaGreat
namespace Go.Proofs.YtpigpajgjdcagaaGreat
open Go.RowKit
section
variable {P:Program} {ops:Array Oper} {md:Region.Mode} {C:World→Prop}
end
theorem zph {B:Nat} {a w:World} (h:Below B a w) (n:Nat):Below B a (w.drewN n):=⟨h.os,h.tape,h.output,h.size,h.block⟩
section
variable {P:Program} {ops:Array Oper} {md:Region.Mode} {S:World→Prop} {Q:Exit→Act→World→Prop}
def heldAny (P:Program) (md:Region.Mode) (ops:Array Oper) (Q:Exit→Act→World→Prop) (S:World→Prop) (n g:Nat):Nat→Array Bool→Act→World→Prop
 | 0,listed,a,w=>(∀ j∈Region.ready md ops listed,n≤j)∧wpAny P md ops Q g listed a w
 | m+1,listed,a,w=>Region.ready md ops listed≠[]∧∀ i∈Region.ready md ops listed,i<n∧wpOp P ops Q i (fun a' w'=>S w'∧heldAny P md ops Q S n g m (listed.setIfInBounds i true) a' w') a w
theorem ze3 {n g:Nat}:∀ (m:Nat) (listed:Array Bool) (a:Act) (w:World),heldAny P md ops Q S n g m listed a w→wpAny P md ops Q (m+g) listed a w
 | 0,_,_,_,h=>by rw [Nat.zero_add];exact h.2
 | m + 1, _, _, _, h => by
   rw [show m+1+g=(m+g)+1 by omega]
   exact ⟨fun h0=>absurd h0 h.1,fun i hi=>wpOp_mono (fun a' w' h'=>ze3 m _ a' w' h'.2) (h.2 i hi).2⟩
def heldQ (P:Program) (md:Region.Mode) (ops:Array Oper) (Q:Exit→Act→World→Prop) (S:World→Prop) (n g m:Nat) (listed:Array Bool) (a:Act) (w:World):Prop :=
 HeadInv md ops n listed→heldAny P md ops Q S n g m listed a w
def HeldAll (P:Program) (md:Region.Mode) (ops:Array Oper) (Q:Exit→Act→World→Prop) (S:World→Prop) (n g m:Nat) (listed:Array Bool) (a:Act) (w:World) (rs:List Nat):Prop :=
 ∀ i∈rs,i<n∧wpOp P ops Q i (fun a' w'=>S w'∧heldQ P md ops Q S n g m (listed.setIfInBounds i true) a' w') a w
theorem HeldAll.nil {n g m:Nat} {listed:Array Bool} {a:Act} {w:World}:HeldAll P md ops Q S n g m listed a w []:=fun _ h=>by cases h
theorem HeldAll.cons {n g m i:Nat} {o:Oper} {rs:List Nat} {listed:Array Bool} {a:Act} {w:World} (ho:ops[i]?=some o) (hin:Nat.ble (i+1) n=true)
 (h:∀ K':Act→World→Prop,Shut (∀ a w,S w→(S w→heldQ P md ops Q S n g m (listed.setIfInBounds i true) a w)→K' a w)→if Region.wanted o (yielded ops a.tmps)=true then Oper.wp P o a w K' Q else K' (a.put o.dst undef) w)
 (hs:HeldAll P md ops Q S n g m listed a w rs):HeldAll P md ops Q S n g m listed a w (i::rs):=fun j hj=>by
 rcases List.mem_cons.1 hj with rfl|hj
 ·exact ⟨Nat.le_of_ble_eq_true hin,wpOp_step ho (fun K' hK=>h K' (fun a w hS hW=>hK a w ⟨hS,hW hS⟩))⟩
 ·exact hs j hj
end
theorem znt (a:Addr) (n:Nat):(a.add n).block=a.block:=by unfold Addr.add;split<;>rfl
def Rd (w:World) (B:Nat) (A:Option Addr) (xs:List Value):Prop:=∀ j u,xs[j]?=some u→∃ ad,A=some ad∧ad.block<B∧w.cell? (ad.add j)=some u
section
variable {w w':World} {B B':Nat} {A:Option Addr} {xs:List Value}
theorem Rd.nil:Rd w B A []:=fun j u h=>by simp at h
theorem Rd.keep (h:Rd w B A xs) (hk:∀ p:Addr,p.block<B→w'.cell? p=w.cell? p):Rd w' B A xs:=fun j u hu=>by
 obtain ⟨ad,e,hb,hc⟩:=h j u hu
 exact ⟨ad,e,hb,(hk _ (by rw [znt];exact hb)).trans hc⟩
theorem Rd.more (h:Rd w B A xs) (hB:B≤B'):Rd w B' A xs:=fun j u hu=>by
 obtain ⟨ad,e,hb,hc⟩:=h j u hu;exact ⟨ad,e,Nat.lt_of_lt_of_le hb hB,hc⟩
theorem Rd.below (h:Rd w B A xs) (hb:Below B w w'):Rd w' B A xs:=h.keep fun _ hp=>hb.cell hp
theorem Rd.ext {W:World} (h:Rd w W.heap.size A xs) (hb:Below W.heap.size w w'):Rd w' W.heap.size A xs:=h.below hb
theorem Rd.drewN (h:Rd w B A xs) (n:Nat):Rd (w.drewN n) B A xs:=h
theorem Rd.alloc (h:Rd w B A xs) (hB:B≤w.heap.size) (o:Obj):Rd (w.alloc o) B A xs:=h.keep fun p hp=>World.cell?_alloc_lt w o p (by omega)
end
theorem Blk.drewN {w:World} {g:Nat} {t:TypeId} {cs:Array Value} (h:Blk w g t cs) (n:Nat):Blk (w.drewN n) g t cs:=h
theorem zmu {P:Program} (t e:TypeId) (i:TypeInfo) (z:Value) (ht:P.underlying t=some (.slice e)) (hi:P.info? e=some i) (hz:i.zero=some z) (hs:i.size=1) (hzc:z.cells=#[z])
 (n:Nat) (hb:i.bytes * n≤281474976710656) (h63:n≤9223372036854775807) (w:World) :
 (Instr.makeSlice t (.int .i64 (n:Int)) (.int .i64 (n:Int))).run P w=.ok (.slice (some ⟨w.heap.size,0,none⟩) n n) (w.alloc (.cells (List.replicate n z).toArray e)):=by
 have hb':(i.bytes:Int) * (n:Int)≤281474976710656:=by
  have h:((i.bytes * n:Nat):Int)≤281474976710656:=by omega
  rwa [Int.natCast_mul] at h
 have hr:=run_make (P:=P) w t e i z ht hi hz .i64 .i64 n n (by omega) (by omega) hb' (by omega)
 simp only [Int.toNat_natCast,hs,Nat.mul_one,hzc] at hr
 rw [hr,show madeCells #[z] n=(List.replicate n z).toArray from by rw [←toList_madeCells_one]]
structure ElemT (P:Program) (t e:TypeId) (z:Value) (size bytes:Nat):Prop where
 und:P.underlying t=some (.slice e)
 info:∃ i,P.info? e=some i∧i.zero=some z∧i.size=size∧i.bytes=bytes
 zs:z.cells.size=size
 pos:0<size
theorem ElemT.mk' {P:Program} {t e:TypeId} {z:Value} {size bytes:Nat} (h1:P.underlying t=some (.slice e)) (h2:(P.info? e).map (fun i=>(i.zero,i.size,i.bytes))=some (some z,size,bytes)) (h3:z.cells.size=size) (h4:0<size):ElemT P t e z size bytes :=
 ⟨h1,info_parts h2,h3,h4⟩
theorem ElemT.make {P:Program} {t e:TypeId} {z:Value} {bytes:Nat} (h:ElemT P t e z 1 bytes) (hzc:z.cells=#[z]) (n:Nat) (hb:bytes * n≤281474976710656) (h63:n≤9223372036854775807) (w:World) :
 (Instr.makeSlice t (.int .i64 (n:Int)) (.int .i64 (n:Int))).run P w=.ok (.slice (some ⟨w.heap.size,0,none⟩) n n) (w.alloc (.cells (List.replicate n z).toArray e)):=by
 obtain ⟨i,hi,hz,hs,hby⟩:=h.info
 exact zmu t e i z h.und hi hz hs hzc n (by rw [hby];exact hb) h63 w
structure Gr (S:Nat→Prop) (w w':World):Prop where
 os:w'.os=w.os
 tape:w'.tape=w.tape
 output:w'.output=w.output
 size:w.heap.size≤w'.heap.size
 block:∀ k,k<w.heap.size→¬ S k→w'.heap[k]?=w.heap[k]?
section
variable {S S':Nat→Prop} {a w w':World}
theorem Gr.refl (S:Nat→Prop) (w:World):Gr S w w:=⟨rfl,rfl,rfl,Nat.le_refl _,fun _ _ _=>rfl⟩
theorem Gr.trans (h:Gr S a w) (k:Gr S w w'):Gr S a w' :=
 ⟨k.os.trans h.os,k.tape.trans h.tape,k.output.trans h.output,Nat.le_trans h.size k.size,fun i hi hn=>(k.block i (Nat.lt_of_lt_of_le hi h.size) hn).trans (h.block i hi hn)⟩
theorem Gr.mono (h:Gr S w w') (hS:∀ i,i<w.heap.size→S i→S' i):Gr S' w w':=⟨h.os,h.tape,h.output,h.size,fun i hi hn=>h.block i hi fun hs=>hn (hS i hi hs)⟩
theorem Gr.drew (h:Gr S a w):Gr S a w.drew:=⟨h.os,h.tape,h.output,h.size,h.block⟩
theorem Gr.drewN (h:Gr S a w) (n:Nat):Gr S a (w.drewN n):=⟨h.os,h.tape,h.output,h.size,h.block⟩
theorem Gr.alloc (h:Gr S a w) (o:Obj):Gr S a (w.alloc o):=⟨h.os,h.tape,h.output,Nat.le_trans h.size (by simp),fun i hi hn=>(Below.heap_alloc w o i (Nat.lt_of_lt_of_le hi h.size)).trans (h.block i hi hn)⟩
theorem Gr.set (h:Gr S a w) {p:Addr} (hp:S p.block∨a.heap.size≤p.block) (u:Value):Gr S a (w.setCell p u) :=
 ⟨h.os,h.tape,h.output,by simpa [World.setCell] using h.size,fun i hi hn=>(Below.heap_setCell w p u i (by rintro rfl;rcases hp with hp|hp<;>first|exact hn hp|omega)).trans (h.block i hi hn)⟩
theorem Gr.below {B:Nat} (h:Gr S w w') (hB:B≤w.heap.size) (hS:∀ i,S i→B≤i):Below B w w':=⟨h.os,h.tape,h.output,h.size,fun i hi=>h.block i (by omega) fun hs=>by have:=hS i hs;omega⟩
theorem Blk.gr {g:Nat} {t:TypeId} {cs:Array Value} (h:Blk w g t cs) (k:Gr S w w') (hn:¬ S g):Blk w' g t cs:=(k.block g h.lt hn).trans h
theorem Rd.gr {B:Nat} {A:Option Addr} {xs:List Value} (h:Rd w B A xs) (k:Gr S w w') (hB:B≤w.heap.size) (hS:∀ i,S i→B≤i):Rd w' B A xs:=h.below (k.below hB hS)
end
namespace Eng
inductive S1 where
 | val (v:Value)
 | ptr (h base off:Nat)
 | slc (h base len cap:Nat)
 | gsl (h n:Nat)
 | clo (f:FuncId) (hs:List Nat)
 | gptr (h base off:Nat)
 | rsl (h n:Nat)
 | rptr (h base off:Nat)
 | bnd (f:FuncId) (h:Nat)
structure AO where
 W:Nat→Prop
 Φ:Nat × Nat→World→Prop
 stable:∀ p w w',(∀ i,W i→w'.heap[i]?=w.heap[i]?)→Φ p w→Φ p w'
 low:∀ p w i,Φ p w→W i→i<w.heap.size
inductive TV where
 | one (x:S1)
 | agg (l:List S1)
inductive SV where
 | one (x:S1)
 | agg (l:List S1)
 | tup (l:List TV)
 | any
def TV.sv:TV→SV
 | .one x=>.one x
 | .agg l=>.agg l
def SV.cells:SV→List S1
 | .one x=>[x]
 | .agg l=>l
 | .tup _=>[]
 | .any=>[]
inductive PT where
 | nil
 | node (v:Option SV) (l r:PT)
def tget:PT→Nat→Option SV
 | .nil,_=>none
 | .node v _ _,0=>v
 | .node _ l r,n+1=>bif Nat.beq (n % 2) 0 then tget l (n / 2) else tget r (n / 2)
def tset:PT→Nat→SV→PT
 | .nil,_,_=>.nil
 | .node v l r, 0, x => match v with
   | some _=>.node (some x) l r
   | none=>.node v l r
 | .node v l r,n+1,x=>bif Nat.beq (n % 2) 0 then .node v (tset l (n / 2) x) r else .node v l (tset r (n / 2) x)
inductive MB where
 | own (t:TypeId) (l:List S1)
 | sym (t:TypeId) (l:List Value)
 | ro (l:List S1)
 | rsym (l:List Value)
 | mrk (t:TypeId) (l:List Value)
 | grow (t:TypeId) (sz n:Nat) (l:List Value)
 | dead
 | rs (n:Nat) (l:List Value)
 | obj (o:AO)
inductive TK where
 | int (k:IntKind)
 | bool
 | string
 | slice
 | ptr
 | other
structure TI where
 k:TK
 agg:Bool
 size:Nat
 zero:List Value
 offs:List Nat
 fsz:List Nat
 esize:Nat
 etype:TypeId
 ezero:List Value
 alen:Nat
 asize:Nat
structure Ar where
 eq:Int→Int→Bool
 lt:Int→Int→Bool
 le:Int→Int→Bool
 add:IntKind→Int→Int→Int
 sub:IntKind→Int→Int→Int
 mul:IntKind→Int→Int→Int
 shl:IntKind→Int→Int→Int
 shr:Int→Int→IntKind→Int
 band:IntKind→Int→Int→Int
 bor:IntKind→Int→Int→Int
 bxor:IntKind→Int→Int→Int
 bandn:IntKind→Int→Int→Int
 quo:IntKind→Int→Int→Int
 cutok:Int→Int→Nat→Bool
 cutb:Nat→Int→Nat→Nat→Nat
 cutn:Int→Int→Nat
 cutc:Nat→Int→Nat
 rem:Int→Int→Int
 not:Bool→Bool
 beq:Bool→Bool→Bool
 seq:ByteArray→ByteArray→Bool
 conv:IntKind→Int→Int
 len:Nat→Int
 inb:Int→Nat→Bool
 idx:Nat→Int→Nat→Nat
 get:List Value→Nat→Nat→Option Value
 getN:List Value→Nat→Nat→Nat→Option (List Value)
 set:List Value→Nat→Nat→List Value→Option (List Value)
 slen:ByteArray→Int
 mn:Int→Int→Int
 mx:Int→Int→Int
 eqn:Nat→Nat→Bool
 addn:Nat→Nat→Nat
 fits:Nat→Nat→Bool
 app:List Value→List Value→List Value
 rows:List Value→Nat→Nat→Nat→Option (List Value)
 sinb:Int→ByteArray→Bool
 sat:ByteArray→Int→Int
 cat:ByteArray→ByteArray→ByteArray
 catok:ByteArray→ByteArray→Bool
 ssl:ByteArray→Int→Int→ByteArray
 sslok:Int→Int→ByteArray→Bool
 tak:List Value→Nat→Nat→Nat→List Value
 zeros:List Value→Nat→List Value
 capok:Nat→Nat→Bool
 sel:Bool→Bool→Bool→Bool
inductive It where
 | code (c:Code)
 | ops (all rest:List Oper)
 | head (all:List Oper) (n0:Nat) (wr:List Nat) (mem0:List MB) (listed:List Nat) (order:List (Nat × Bool)) (n:Nat)
 | call (f:FuncId) (args:List SV) (dst:Option Tmp)
 | blk (id:Nat)
 | again (j:Nat)
 | ret
structure St where
 items:List It
 tm:PT
 mem:List MB
def look:List (TypeId × TI)→TypeId→Option TI
 | [],_=>none
 | (u,x)::l,t=>bif Nat.beq u t then some x else look l t
def vals:List Value→List S1
 | []=>[]
 | v::l=>.val v::vals l
def unvals:List S1→Option (List Value)
 | []=>some []
 | .val v :: l => match unvals l with
   | some r=>some (v::r)
   | none=>none
 | _=>none
def nth {α:Type}:List α→Nat→Option α
 | [],_=>none
 | x::_,0=>some x
 | _::l,n+1=>nth l n
def takeN {α:Type}:Nat→List α→Option (List α)
 | 0,_=>some []
 | _+1,[]=>none
 | n + 1, x :: l => match takeN n l with
   | some r=>some (x::r)
   | none=>none
def dropN {α:Type}:Nat→List α→List α
 | 0,l=>l
 | _+1,[]=>[]
 | n+1,_::l=>dropN n l
def setAt {α:Type}:List α→Nat→α→List α
 | [],_,_=>[]
 | _::l,0,x=>x::l
 | y::l,n+1,x=>y::setAt l n x
def over {α:Type}:List α→Nat→List α→Option (List α)
 | l,0,[]=>some l
 | [],0,_::_=>none
 | _ :: l, 0, x :: xs => match over l 0 xs with
   | some r=>some (x::r)
   | none=>none
 | [],_+1,_=>none
 | y :: l, n + 1, xs => match over l n xs with
   | some r=>some (y::r)
   | none=>none
def len {α:Type}:List α→Nat
 | []=>0
 | _::l=>Nat.succ (len l)
def ev (tm:PT):Operand→Option SV
 | .tmp t => match tget tm t with
   | some .any=>none
   | r=>r
 | .const v=>some (.one (.val v))
 | .global g=>some (.one (.val (.pointer (some ⟨g,0,none⟩))))
 | .func f=>some (.one (.val (.func (.func f) #[] #[])))
def evs (tm:PT):List Operand→Option (List SV)
 | []=>some []
 | x :: l => match ev tm x, evs tm l with
   | some v,some r=>some (v::r)
   | _,_=>none
def cmpE (A:Ar) (op:BinOp) (x y:Int):Option Bool :=
 match op with
 | .eql=>some (A.eq x y)
 | .neq=>some (A.not (A.eq x y))
 | .lss=>some (A.lt x y)
 | .leq=>some (A.le x y)
 | .gtr=>some (A.lt y x)
 | .geq=>some (A.le y x)
 | _=>none
def binE (A:Ar) (k:TK) (op:BinOp) (x y:Value):Option Value :=
 match x,y with
 | .int k a, .int k' b =>
   match op with
   | .add=>bif k == k' then some (.int k (A.add k a b)) else none
   | .sub=>bif k == k' then some (.int k (A.sub k a b)) else none
   | .mul=>bif k == k' then some (.int k (A.mul k a b)) else none
   | .shl=>bif A.le 0 b then some (.int k (A.shl k a b)) else none
   | .shr=>bif A.le 0 b then some (.int k (A.shr a b k)) else none
   | .and=>bif k == k' then some (.int k (A.band k a b)) else none
   | .or=>bif k == k' then some (.int k (A.bor k a b)) else none
   | .xor=>bif k == k' then some (.int k (A.bxor k a b)) else none
   | .andNot=>bif k == k' then some (.int k (A.bandn k a b)) else none
   | .quo=>bif k == k' && A.not (A.eq b 0) then some (.int k (A.quo k a b)) else none
   | .rem=>bif k == k' && A.not (A.eq b 0) then some (.int k (A.rem a b)) else none
   | _=>bif k == k' then (match cmpE A op a b with|some c=>some (.bool c)|none=>none) else none
 | .bool a, .bool b =>
   match k,op with
   | .bool,.eql=>some (.bool (A.beq a b))
   | .bool,.neq=>some (.bool (A.not (A.beq a b)))
   | _,_=>none
 | .string a, .string b =>
   match op with
   | .eql=>some (.bool (A.seq a b))
   | .neq=>some (.bool (A.not (A.seq a b)))
   | .add=>bif A.catok a b then some (.string (A.cat a b)) else none
   | _=>none
 | .slice a _ _, .slice none _ _ =>
   match k,op with
   | .slice,.eql=>some (.bool (match a with|none=>true|some _=>false))
   | .slice,.neq=>some (.bool (match a with|none=>false|some _=>true))
   | _,_=>none
 | _,_=>none
def nilE (A:Ar) (mem:List MB) (k:TK) (x:S1) (b:Value):Bool :=
 match k,b with
 | .slice, .slice none _ _ => match x with
   | .slc _ _ _ _=>true
   | .gsl h n => match nth mem h with
     | some (.grow _ _ m _)=>A.eqn m n && A.lt 0 (A.len n)
     | _=>false
   | .rsl h n => match nth mem h with
     | some (.rs m _)=>A.capok n m && A.lt 0 (A.len n)
     | _=>false
   | _=>false
 | .ptr, .pointer none => match x with
   | .ptr _ _ _=>true
   | .gptr _ _ _=>true
   | .rptr _ _ _=>true
   | _=>false
 | _,_=>false
def ldH:Option SV→Option Nat
 | some (.one (.ptr h _ _))=>some h
 | some (.one (.gptr h _ _))=>some h
 | some (.one (.rptr h _ _))=>some h
 | _=>none
def ldE (A:Ar) (ti:TI) (l:List Value) (base off:Nat):Option SV :=
 bif ti.agg then (match A.getN l base off ti.size with|some r=>some (.agg (vals r))|none=>none) else (match A.get l base off with|some v=>some (.one (.val v))|none=>none)
def capE (tm:PT):List Operand→Option (List Nat)
 | []=>some []
 | x :: l => match ev tm x, capE tm l with
   | some (.one (.ptr h 0 0)),some r=>some (h::r)
   | _,_=>none
def bndE (tm:PT) (d:Int):Option Operand→Option Int
 | none=>some d
 | some x => match ev tm x with
   | some (.one (.val (.int _ n)))=>some n
   | _=>none
def cellB:S1→Bool
 | .val (.agg _)=>false
 | .val (.tuple _)=>false
 | _=>true
def cellsB:List S1→Bool
 | []=>true
 | x::l=>bif cellB x then cellsB l else false
def fillE (offs fsz:List Nat) (tm:PT):List (Nat × Operand)→List S1→Option (List S1)
 | [],cs=>some cs
 | (i, x) :: l, cs => match nth offs i, nth fsz i, ev tm x with
   | some k, some n, some v => bif Nat.beq (len v.cells) n && cellsB v.cells && Nat.ble 1 n then (match over cs k v.cells with
     | some cs'=>fillE offs fsz tm l cs'
     | none=>none) else none
   | _,_,_=>none
def fillS (n:Nat) (tm:PT):List (Nat × Operand)→List S1→Option (List S1)
 | [],cs=>some cs
 | (i, x) :: l, cs => match ev tm x with
   | some v => bif Nat.beq (len v.cells) n && cellsB v.cells && Nat.ble 1 n then (match over cs (i * n) v.cells with
     | some cs'=>fillS n tm l cs'
     | none=>none) else none
   | none=>none
def quietE (A:Ar) (T:List (TypeId × TI)) (op:Op) (tm:PT) (mem:List MB):Option SV :=
 match op with
 | .move x=>ev tm x
 | .assign x=>ev tm x
 | .pick c a b => match ev tm c with
   | some (.one (.val (.bool true)))=>ev tm a
   | some (.one (.val (.bool false)))=>ev tm b
   | _=>none
 | .load t x => match ev tm x, look T t with
   | some (.one (.ptr h base off)), some ti => match nth mem h with
     | some (.own _ l)=>bif ti.agg then (match takeN ti.size (dropN (base+off) l) with|some r=>some (.agg r)|none=>none) else (match nth l (base+off) with|some v=>some (.one v)|none=>none)
     | some (.ro l)=>bif ti.agg then (match takeN ti.size (dropN (base+off) l) with|some r=>some (.agg r)|none=>none) else (match nth l (base+off) with|some v=>some (.one v)|none=>none)
     | some (.sym _ l)=>bif ti.agg then (match A.getN l base off ti.size with|some r=>some (.agg (vals r))|none=>none) else (match A.get l base off with|some v=>some (.one (.val v))|none=>none)
     | some (.rsym l)=>bif ti.agg then (match A.getN l base off ti.size with|some r=>some (.agg (vals r))|none=>none) else (match A.get l base off with|some v=>some (.one (.val v))|none=>none)
     | _=>none
   | some (.one (.gptr h base off)), some ti => match nth mem h with
     | some (.grow _ _ _ l)=>ldE A ti l base off
     | _=>none
   | some (.one (.rptr h base off)), some ti => match nth mem h with
     | some (.rs _ l)=>ldE A ti l base off
     | _=>none
   | _,_=>none
 | .nilCheck x => match ev tm x with
   | some (.one (.ptr h base off))=>some (.one (.ptr h base off))
   | some (.one (.gptr h base off))=>some (.one (.gptr h base off))
   | some (.one (.rptr h base off))=>some (.one (.rptr h base off))
   | _=>none
 | .binOp op t x y _ => match ev tm x, ev tm y, look T t with
   | some (.one (.val a)), some (.one (.val b)), some ti => match binE A ti.k op a b with
     | some v=>some (.one (.val v))
     | none=>none
   | some (.one x), some (.one (.val b)), some ti => bif nilE A mem ti.k x b then (match op with
     | .eql=>some (.one (.val (.bool false)))
     | .neq=>some (.one (.val (.bool true)))
     | _=>none) else none
   | _,_,_=>none
 | .unOp op _ x => match op, ev tm x with
   | .not,some (.one (.val (.bool b)))=>some (.one (.val (.bool (A.not b))))
   | .xor,some (.one (.val (.int k n)))=>some (.one (.val (.int k (A.bxor k (bif k.signed then -1 else k.max) n))))
   | .neg,some (.one (.val (.int k n)))=>some (.one (.val (.int k (A.sub k 0 n))))
   | _,_=>none
 | .convert c d x => match ev tm x, look T d, look T c with
   | some (.one (.val (.int _ n))), some ti, some _ => match ti.k with
     | .int k=>some (.one (.val (.int k (A.conv k n))))
     | _=>none
   | _,_,_=>none
 | .fieldAddr s x f => match ev tm x, look T s with
   | some (.one (.ptr h base off)), some ti => match nth ti.offs f with
     | some k=>some (.one (.ptr h base (off+k)))
     | none=>none
   | some (.one (.gptr h base off)), some ti => match nth ti.offs f with
     | some k=>some (.one (.gptr h base (off+k)))
     | none=>none
   | some (.one (.rptr h base off)), some ti => match nth ti.offs f with
     | some k=>some (.one (.rptr h base (off+k)))
     | none=>none
   | _,_=>none
 | .indexAddr t x i => match ev tm x, ev tm i, look T t with
   | some (.one (.slc h base len _)), some (.one (.val (.int _ n))), some ti =>
     bif Nat.ble 1 ti.esize && A.inb n len then some (.one (.ptr h (A.idx base n ti.esize) 0)) else none
   | some (.one (.gsl h len)), some (.one (.val (.int _ n))), some ti => match nth mem h with
     | some (.grow _ _ m _)=>bif Nat.ble 1 ti.esize && A.inb n len && A.eqn m len then some (.one (.gptr h (A.idx 0 n ti.esize) 0)) else none
     | _=>none
   | some (.one (.rsl h len)), some (.one (.val (.int _ n))), some ti => match nth mem h with
     | some (.rs m _)=>bif Nat.ble 1 ti.esize && A.inb n len && A.capok len m then some (.one (.rptr h (A.idx 0 n ti.esize) 0)) else none
     | _=>none
   | some (.one (.ptr h base off)), some (.one (.val (.int _ z))), some ti => match nth mem h with
     | some (.sym _ _)=>bif Nat.ble 1 ti.asize && Nat.ble 1 ti.alen && A.inb z ti.alen then some (.one (.ptr h (A.idx base z ti.asize) off)) else none
     | _ => match z with
       | .ofNat n=>bif Nat.ble 1 ti.asize && Nat.blt n ti.alen then some (.one (.ptr h base (off+n * ti.asize))) else none
       | _=>none
   | _,_,_=>none
 | .extract t i => match ev tm t with
   | some (.tup l) => match nth l i with
     | some v=>some v.sv
     | none=>none
   | _=>none
 | .call c => match c.callee, c.args.toList, c.argTypes.toList with
   | .builtin .len, [x], [t] => match look T t with
     | some ti => match ti.k, ev tm x with
       | .slice,some (.one (.slc _ _ n _))=>some (.one (.val (.int .i64 (A.len n))))
       | .slice,some (.one (.val (.slice _ n _)))=>some (.one (.val (.int .i64 (A.len n))))
       | .slice,some (.one (.gsl _ n))=>some (.one (.val (.int .i64 (A.len n))))
       | .slice,some (.one (.rsl _ n))=>some (.one (.val (.int .i64 (A.len n))))
       | .string,some (.one (.val (.string b)))=>some (.one (.val (.int .i64 (A.slen b))))
       | _,_=>none
     | none=>none
   | .builtin .min, [x, y], _ => match ev tm x, ev tm y with
     | some (.one (.val (.int k a))),some (.one (.val (.int _ b)))=>some (.one (.val (.int k (A.mn a b))))
     | _,_=>none
   | .builtin .max, [x, y], _ => match ev tm x, ev tm y with
     | some (.one (.val (.int k a))),some (.one (.val (.int _ b)))=>some (.one (.val (.int k (A.mx a b))))
     | _,_=>none
   | _,_,_=>none
 | .index t x i => match ev tm x, ev tm i, look T t with
   | some (.one (.val (.string b))), some (.one (.val (.int _ n))), some ti => match ti.k with
     | .string=>bif A.sinb n b then some (.one (.val (.int .u8 (A.sat b n)))) else none
     | _=>none
   | some (.agg cs), some (.one (.val (.int _ z))), some ti => match unvals cs, look T ti.etype with
     | some vs, some te => bif Nat.ble 1 ti.asize && Nat.ble 1 ti.alen && A.inb z ti.alen then (match te.agg with
       | true=>none
       | false => match A.get vs (A.idx 0 z ti.asize) 0 with
         | some v=>some (.one (.val v))
         | none=>none) else none
     | _,_=>none
   | _,_,_=>none
 | .slice t x lo hi mx => match mx, ev tm x, look T t with
   | none, some (.one (.slc h base n cap)), some ti => match bndE tm 0 lo, bndE tm (A.len n) hi with
     | some l,some u=>bif Nat.ble 1 ti.esize && A.cutok l u cap then some (.one (.slc h (A.cutb base l cap ti.esize) (A.cutn l u) (A.cutc cap l))) else none
     | _,_=>none
   | none, some (.one (.val (.string b))), some ti => match ti.k with
     | .string => match bndE tm 0 lo, bndE tm (A.slen b) hi with
       | some l,some u=>bif A.sslok l u b then some (.one (.val (.string (A.ssl b l u)))) else none
       | _,_=>none
     | _=>none
   | none, some (.one (.rsl h n)), some ti => match lo, bndE tm (A.len n) hi, nth mem h with
     | none,some u,some (.rs m _)=>bif Nat.ble 1 ti.esize && A.cutok 0 u n && A.capok n m then some (.one (.rsl h (A.cutn 0 u))) else none
     | _,_,_=>none
   | _,_,_=>none
 | .build t parts => match look T t with
   | some ti => match ti.offs with
     | [] => bif Nat.ble 1 ti.asize && Nat.ble 1 ti.alen then (match fillS ti.asize tm parts.toList (vals ti.zero) with
       | some cs=>some (.agg cs)
       | none=>none) else none
     | _ :: _ => match fillE ti.offs ti.fsz tm parts.toList (vals ti.zero) with
       | some cs=>some (.agg cs)
       | none=>none
   | none=>none
 | .makeFunc fn first cap => match fn, first.toList, capE tm cap.toList with
   | .func f,[],some hs=>some (.one (.clo f hs))
   | .func f, [x], some [] => match ev tm x with
     | some (.one (.ptr h 0 0))=>some (.one (.bnd f h))
     | _=>none
   | _,_,_=>none
 | _=>none
def repN:Nat→List S1→List S1
 | 0,_=>[]
 | n+1,l=>l++repN n l
def valsB:List Value→Bool
 | []=>true
 | .agg _::_=>false
 | .tuple _::_=>false
 | _::l=>valsB l
def rowE (A:Ar) (mem:List MB) (e:TypeId) (sz:Nat):SV→Option (Option Nat × Nat × List Value)
 | .one (.val (.slice none 0 0))=>some (none,0,[])
 | .one (.gsl h n) => match nth mem h with
   | some (.grow t z m l)=>bif Nat.beq t e && Nat.beq z sz && A.eqn m n then some (some h,n,l) else none
   | _=>none
 | .one (.slc h 0 n c) => match nth mem h with
   | some (.own t l)=>bif Nat.beq t e && Nat.beq n c && Nat.beq (len l) (n * sz) && Nat.ble n 1000000 then (match unvals l with|some r=>bif valsB r then some (some h,n,r) else none|none=>none) else none
   | _=>none
 | _=>none
def srcE (A:Ar) (mem:List MB) (sz:Nat):SV→Option (Nat × List Value)
 | .one (.val (.slice none 0 0))=>some (0,[])
 | .one (.gsl h n) => match nth mem h with
   | some (.grow _ z m l)=>bif Nat.beq z sz && A.eqn m n then some (n,l) else none
   | _=>none
 | .one (.slc h b n _) => match nth mem h with
   | some (.own _ l) => match takeN (n * sz) (dropN b l) with
     | some r=>(match unvals r with|some r=>bif valsB r then some (n,r) else none|none=>none)
     | none=>none
   | some (.ro l) => match takeN (n * sz) (dropN b l) with
     | some r=>(match unvals r with|some r=>bif valsB r then some (n,r) else none|none=>none)
     | none=>none
   | some (.sym _ l) => match A.rows l b n sz with
     | some r=>some (n,r)
     | none=>none
   | some (.rsym l) => match A.rows l b n sz with
     | some r=>some (n,r)
     | none=>none
   | some (.mrk _ l) => match A.rows l b n sz with
     | some r=>some (n,r)
     | none=>none
   | _=>none
 | .one (.rsl h n) => match nth mem h with
   | some (.rs m l) => bif A.capok n m then (match A.rows l 0 n sz with
     | some r=>some (n,r)
     | none=>none) else none
   | _=>none
 | _=>none
def tinsert:Nat→PT→Nat→SV→PT
 | 0,p,_,_=>p
 | _+1,.nil,0,x=>.node (some x) .nil .nil
 | f+1,.nil,n+1,x=>bif Nat.beq (n % 2) 0 then .node none (tinsert f .nil (n / 2) x) .nil else .node none .nil (tinsert f .nil (n / 2) x)
 | _+1,.node _ l r,0,x=>.node (some x) l r
 | f+1,.node v l r,n+1,x=>bif Nat.beq (n % 2) 0 then .node v (tinsert f l (n / 2) x) r else .node v l (tinsert f r (n / 2) x)
def tfrom:PT→Nat→List SV→PT
 | p,_,[]=>p
 | p,i,x::l=>tfrom (tinsert 20 p i x) (i+1) l
def inL:List Nat→Nat→Bool
 | [],_=>false
 | x::l,n=>bif Nat.beq x n then true else inL l n
def effE (A:Ar) (T:List (TypeId × TI)) (n0:Nat) (W:List Nat) (op:Op) (tm:PT) (mem:List MB):Option (SV × List MB) :=
 match op with
 | .alloc t => match look T t with
   | some ti=>some (.one (.ptr (len mem) 0 0),mem++[.own t (vals ti.zero)])
   | none=>none
 | .box t x => match ev tm x with
   | some v=>bif cellsB v.cells && Nat.ble 1 (len v.cells) then some (.one (.ptr (len mem) 0 0),mem++[.own t v.cells]) else none
   | none=>none
 | .buildSlice t n parts => match look T t with
   | some ti => bif Nat.ble 1 ti.esize && Nat.ble (n * ti.esize) 100000 && Nat.beq (len ti.ezero) ti.esize then (match fillS ti.esize tm parts.toList (repN n (vals ti.ezero)) with
     | some cs=>some (.one (.slc (len mem) 0 n n),mem++[.own ti.etype cs])
     | none=>none) else none
   | none=>none
 | .call c => match c.callee, c.args.toList, c.argTypes.toList with
   | .builtin .append, [s, x], [t, u] => match look T t, ev tm s, ev tm x with
     | some ti, some vs, some vx => bif Nat.beq t u && Nat.ble 1 ti.esize && Nat.beq (len ti.ezero) ti.esize then (match rowE A mem ti.etype ti.esize vs, srcE A mem ti.esize vx with
       | some (hs, n, l), some (m, r) => bif A.fits n m then (match hs with
         | some h=>bif Nat.ble n0 h || inL W h then some (.one (.gsl (len mem) (A.addn n m)),setAt mem h .dead++[.grow ti.etype ti.esize (A.addn n m) (A.app l r)]) else none
         | none=>some (.one (.gsl (len mem) (A.addn n m)),mem++[.grow ti.etype ti.esize (A.addn n m) (A.app l r)])) else none
       | _,_=>none) else none
     | _,_,_=>none
   | _,_,_=>none
 | .store t x y => match ev tm x, ev tm y, look T t with
   | some (.one (.ptr h base off)),some v,some ti=>bif (Nat.ble n0 h || inL W h) && Nat.beq (len v.cells) ti.size && cellsB v.cells && Nat.ble 1 ti.size then
    match nth mem h with
    | some (.own u l) => match over l (base + off) v.cells with
      | some l'=>some (.one (.val undef),setAt mem h (.own u l'))
      | none=>none
    | some (.sym u l) => match unvals v.cells with
      | some vs => match A.set l base off vs with
        | some l'=>some (.one (.val undef),setAt mem h (.sym u l'))
        | none=>none
      | none=>none
    | _=>none
     else none
   | some (.one (.gptr h base off)),some v,some ti=>bif (Nat.ble n0 h || inL W h) && Nat.beq (len v.cells) ti.size && cellsB v.cells && Nat.ble 1 ti.size then
    match nth mem h with
    | some (.grow u z m l)=>match unvals v.cells with
     | some vs => bif valsB vs then (match A.set l base off vs with
       | some l'=>some (.one (.val undef),setAt mem h (.grow u z m l'))
       | none=>none) else none
     | none=>none
    | _=>none
     else none
   | _,_,_=>none
 | .slice t x lo hi mx => match mx, ev tm x, look T t with
   | none, some (.one (.gsl h n)), some ti => match lo, bndE tm (A.len n) hi, nth mem h with
     | none,some u,some (.grow e z m l)=>bif (Nat.ble n0 h || inL W h) && Nat.ble 1 ti.esize && Nat.beq z ti.esize && A.cutok 0 u n && A.eqn m n then
      some (.one (.gsl (len mem) (A.cutn 0 u)),setAt mem h .dead++[.grow e z (A.cutn 0 u) (A.tak l 0 (A.cutn 0 u) z)]) else none
     | _,_,_=>none
   | none, some (.one (.rsl h n)), some ti => match bndE tm 0 lo, bndE tm (A.len n) hi, nth mem h with
     | some l,some u,some (.rs m xs)=>bif Nat.ble 1 ti.esize && A.cutok l u n && A.capok n m then
      some (.one (.rsl (len mem) (A.cutn l u)),mem++[.rs (A.cutn l u) (A.tak xs (A.idx 0 l ti.esize) (A.cutn l u) ti.esize)]) else none
     | _,_,_=>none
   | _,_,_=>none
 | .makeSlice t l c => match ev tm l, ev tm c, look T t with
   | some (.one (.val (.int .i64 x))),some (.one (.val (.int .i64 y))),some ti=>bif Nat.ble 1 ti.esize && A.cutok x y 1000000 && Nat.beq (len ti.ezero) ti.esize && valsB ti.ezero then
    some (.one (.gsl (len mem) (A.cutn 0 x)),mem++[.grow ti.etype ti.esize (A.cutn 0 x) (A.zeros ti.ezero (A.cutn 0 x))]) else none
   | _,_,_=>none
 | _=>none
def putE (tm:PT) (d:Option Tmp) (v:SV):PT :=
 match d with
 | some d=>tset tm d v
 | none=>tm
def wantE (all:List Oper) (tm:PT) (o:Oper):Option (Bool × Bool) :=
 match o.guard with
 | none=>some (true,true)
 | some (j, want) => match nth all j with
   | some g => match g.dst with
     | some d => match tget tm d with
       | some (.one (.val (.bool b)))=>some (b,want)
       | some (.one (.val (.tuple _)))=>some (true,false)
       | _=>none
     | none=>none
   | none=>none
def notb:Bool→Bool
 | true=>false
 | false=>true
def callE (tm:PT) (op:Op):Option (FuncId × List SV) :=
 match op with
 | .call c => match c.callee with
   | .value (.func f) => match evs tm c.args.toList with
     | some vs=>some (f,vs)
     | none=>none
   | .value (.tmp t) => match tget tm t, evs tm c.args.toList with
     | some (.one (.clo f hs)),some vs=>some (f,vs++hs.map fun h=>.one (.ptr h 0 0))
     | some (.one (.bnd f h)),some vs=>some (f,.one (.ptr h 0 0)::vs)
     | _,_=>none
   | _=>none
 | _=>none
def exitTo (id:Nat):List It→Option (List It)
 | []=>none
 | .blk j::k=>bif Nat.beq j id then some k else exitTo id k
 | .code _::k=>exitTo id k
 | .again _::k=>exitTo id k
 | _::_=>none
abbrev Ords:=List (Nat × List (Nat × Bool) × Nat × List Nat)
def ordOf:Ords→Nat→Option (List (Nat × Bool) × Nat × List Nat)
 | [],_=>none
 | (j,x)::l,i=>bif Nat.beq j i then some x else ordOf l i
def loadsOld (n0:Nat) (W:List Nat) (tm:PT):Op→Bool
 | .load _ x => match ldH (ev tm x) with
   | some h=>Nat.blt h n0 && !inL W h
   | none=>false
 | _=>true
def strip1 (o : Oper) : Oper := { dst := o.dst, op := o.op, type := o.type, pos := "", after := #[], guard := o.guard }
def stripL:List Oper→List Oper
 | []=>[]
 | o::l=>strip1 o::stripL l
def stripC:Code→Code
 | .seq a b=>.seq (stripC a) (stripC b)
 | .cond c a b=>.cond c (stripC a) (stripC b)
 | .block id b=>.block id (stripC b)
 | .loop b=>.loop (stripC b)
 | .region id ops draw=>.region id ⟨stripL ops.toList⟩ draw
 | c=>c
def resE (A:Ar) (T:List (TypeId × TI)) (tm:PT) (mem:List MB) (r:ResultVar):Option SV :=
 match r with
 | .tmp t=>ev tm (.tmp t)
 | .cell a t=>quietE A T (.load t (.tmp a)) tm mem
def fgt:List Nat→PT→PT
 | [],p=>p
 | i::l,p=>fgt l (tset p i .any)
def setV:List (Nat × SV)→PT→PT
 | [],p=>p
 | (i,v)::l,p=>setV l (tset p i v)
def plainK:List It→Bool
 | []=>true
 | .code _::k=>plainK k
 | .blk _::k=>plainK k
 | .again _::k=>plainK k
 | _=>false
def quietsE (A:Ar) (T:List (TypeId × TI)):List Oper→PT→List MB→Option PT
 | [],tm,_=>some tm
 | o :: l, tm, mem => match quietE A T o.op tm mem with
   | some v=>quietsE A T l (putE tm o.dst v) mem
   | none=>none
def beqW (want w:Bool):Bool:=match want with
 | true=>w
 | false=>notb w
def takeG (j:Nat) (want:Bool):List Oper→List Oper × List Oper
 | []=>([],[])
 | o :: l => match o.guard with
   | some (i,w)=>bif Nat.beq i j && beqW want w then (match takeG j want l with|(a,b)=>(o::a,b)) else ([],o::l)
   | none=>([],o::l)
def dstsO:List Oper→List Nat
 | []=>[]
 | o :: l => match o.dst with
   | some d=>d::dstsO l
   | none=>dstsO l
def safeO:Op→Bool
 | .move _=>true
 | .assign _=>true
 | .load _ _=>true
 | .fieldAddr _ _ _=>true
 | .field _ _ _=>true
 | .nilCheck _=>true
 | .extract _ _=>true
 | .unOp _ _ _=>true
 | .convert _ _ _=>true
 | .pick _ _ _=>true
 | .binOp op _ _ _ _ => match op with
   | .shl=>false
   | .shr=>false
   | .quo=>false
   | .rem=>false
   | _=>true
 | .call c => match c.callee with
   | .builtin _=>true
   | _=>false
 | _=>false
def safesO:List Oper→Bool
 | []=>true
 | o::l=>bif safeO o.op then safesO l else false
def hasG:Ords→Bool
 | (_,[],_,[_])::_=>true
 | _=>false
def grpE (A:Ar) (T:List (TypeId × TI)) (D:Ords) (all:List Oper) (tm:PT) (mem:List MB) (l:List Oper):Option (PT × List Oper) :=
 match hasG D with
 | false=>none
 | true => match l with
   | []=>none
   | o :: _ => match o.guard with
     | none=>none
     | some (j, want) => match nth all j with
       | none=>none
       | some g => match g.dst with
         | none=>none
         | some d => match tget tm d with
           | some (.one (.val (.bool b))) => match takeG j want l with
             | (gs, pk :: r) => match pk.guard, pk.op, pk.dst with
               | none, .pick (.tmp c) x y, some pd => bif safesO gs && (Nat.beq c d && notb (inL (dstsO gs) d)) then (match quietsE A T gs tm mem with
                 | some tmG => (match want with
                   | true => (match ev tmG x, ev (fgt (dstsO gs) tm) y with
                     | some (.one (.val (.bool v))),some (.one (.val (.bool w)))=>some (putE (fgt (dstsO gs) tm) (some pd) (.one (.val (.bool (A.sel b v w)))),r)
                     | _,_=>none)
                   | false => (match ev (fgt (dstsO gs) tm) x, ev tmG y with
                     | some (.one (.val (.bool v))),some (.one (.val (.bool w)))=>some (putE (fgt (dstsO gs) tm) (some pd) (.one (.val (.bool (A.sel b v w)))),r)
                     | _,_=>none))
                 | none=>none) else none
               | _,_,_=>none
             | _=>none
           | _=>none
def doOps (A:Ar) (T:List (TypeId × TI)) (c:St→St) (s:St) (all:List Oper) (o:Oper) (r:List Oper) (k:List It):Bool→St
 | true => match quietE A T o.op s.tm s.mem with
   | some v=>c { s with items:=.ops all r::k,tm:=putE s.tm o.dst v }
   | none => match effE A T 0 [] o.op s.tm s.mem with
     | some (v,mem)=>bif plainK k then c { items:=.ops all r::k,tm:=putE s.tm o.dst v,mem } else s
     | none => match callE s.tm o.op with
       | some (f,args)=>{ s with items:=.call f args o.dst::.ops all r::k }
       | none=>s
 | false=>c { s with items:=.ops all r::k,tm:=putE s.tm o.dst (.one (.val undef)) }
def doHead (A:Ar) (T:List (TypeId × TI)) (c:St→St) (s:St) (all:List Oper) (n0:Nat) (W:List Nat) (m0:List MB) (ls:List Nat) (i:Nat) (sole:Bool) (o:Oper) (r:List (Nat × Bool)) (m:Nat) (k:List It):Bool→St
 | true => match quietE A T o.op s.tm s.mem with
   | some v=>bif sole || loadsOld n0 W s.tm o.op then c { s with items:=.head all n0 W m0 (i::ls) r m::k,tm:=putE s.tm o.dst v } else s
   | none => match effE A T n0 W o.op s.tm s.mem with
     | some (v,mem)=>bif sole && plainK k then c { items:=.head all n0 W m0 (i::ls) r m::k,tm:=putE s.tm o.dst v,mem } else s
     | none => match callE s.tm o.op with
       | some (f,args)=>bif sole then { s with items:=.call f args o.dst::.head all n0 W m0 (i::ls) r m::k } else s
       | none=>s
 | false=>c { s with items:=.head all n0 W m0 (i::ls) r m::k,tm:=putE s.tm o.dst (.one (.val undef)) }
def run (A:Ar) (T:List (TypeId × TI)) (D:Ords):Nat→St→St
 | 0,s=>s
 | n + 1, s => match s.items with
   | []=>s
   | .code c :: k => match c with
     | .skip=>run A T D n { s with items:=k }
     | .seq a b=>run A T D n { s with items:=.code a::.code b::k }
     | .region id ops draw => match draw with
       | false=>run A T D n { s with items:=.ops ops.toList ops.toList::k }
       | true => match ordOf D id with
         | some (ord,m,W)=>run A T D n { s with items:=.head ops.toList (len s.mem) W s.mem [] ord m::k }
         | none=>s
     | .cond x a b => match ev s.tm x with
       | some (.one (.val (.bool t))) => match t with
         | true=>run A T D n { s with items:=.code a::k }
         | false=>run A T D n { s with items:=.code b::k }
       | _=>s
     | .block id b=>run A T D n { s with items:=.code b::.blk id::k }
     | .exit id => match exitTo id k with
       | some k'=>run A T D n { s with items:=k' }
       | none=>s
     | .ret=>{ s with items:=.ret::k }
     | _=>s
   | .blk _::k=>run A T D n { s with items:=k }
   | .ops all rest :: k => match rest with
     | []=>run A T D n { s with items:=k }
     | o :: r => match grpE A T D all s.tm s.mem (o :: r) with
       | some (tm',r')=>run A T D n { s with items:=.ops all r'::k,tm:=tm' }
       | none => match wantE all s.tm o with
         | some (b, w) => match b with
           | true=>doOps A T (run A T D n) s all o r k w
           | false=>doOps A T (run A T D n) s all o r k (notb w)
         | none=>s
   | .head all n0 W m0 ls ord m :: k => match ord with
     | []=>run A T D n { s with items:=.ops all (dropN m all)::k }
     | (i, sole) :: r => match nth all i with
       | some o => match wantE all s.tm o with
         | some (b, w) => match b with
           | true=>doHead A T (run A T D n) s all n0 W m0 ls i sole o r m k w
           | false=>doHead A T (run A T D n) s all n0 W m0 ls i sole o r m k (notb w)
         | none=>s
       | none=>s
   | _=>s
end Eng
namespace Eng
theorem zak {α:Type}:∀ (l:List α) (i:Nat),nth l i=l[i]?
 | [],i=>by simp [nth]
 | x::l,0=>by simp [nth]
 | x::l,i+1=>by simp [nth,zak l i]
theorem zaq {α:Type}:∀ l:List α,len l=l.length
 | []=>rfl
 | x::l=>by simp [len,zaq l]
theorem zf7 {α:Type}:∀ (n:Nat) (l:List α),dropN n l=l.drop n
 | 0,l=>by simp [dropN]
 | n+1,[]=>by simp [dropN]
 | n+1,x::l=>by simp [dropN,zf7 n l]
theorem zei {α:Type}:∀ (n:Nat) (l r:List α),takeN n l=some r→r=l.take n∧r.length=n
 | 0,l,r,h=>by simp [takeN] at h;subst h;simp
 | n+1,[],r,h=>by simp [takeN] at h
 | n + 1, x :: l, r, h => by
   simp only [takeN] at h
   split at h
   ·rename_i r' hr
    cases h
    obtain ⟨h1,h2⟩:=zei n l r' hr;simp [h1.symm,h2]
   ·cases h
theorem zaf {α:Type}:∀ (l:List α) (i:Nat) (x:α),setAt l i x=l.set i x
 | [],i,x=>by simp [setAt]
 | y::l,0,x=>by simp [setAt]
 | y::l,i+1,x=>by simp [setAt,zaf l i x]
theorem zd8 {α:Type}:∀ (l:List α) (n:Nat) (xs r:List α),over l n xs=some r→n+xs.length≤l.length∧r=l.take n++xs++l.drop (n+xs.length)
 | l, 0, [], r, h => by
   have:r=l:=by cases l<;>simp [over] at h<;>first|exact h|exact h.symm
   subst this;simp
 | [],0,x::xs,r,h=>by simp [over] at h
 | y :: l, 0, x :: xs, r, h => by
   simp only [over] at h
   split at h
   ·rename_i r' hr
    cases h
    obtain ⟨h1,h2⟩:=zd8 l 0 xs r' hr;simp at h1 h2;simp [h2];omega
   ·cases h
 | [],n+1,xs,r,h=>by simp [over] at h
 | y :: l, n + 1, xs, r, h => by
   simp only [over] at h
   split at h
   ·rename_i r' hr
    cases h
    obtain ⟨h1,h2⟩:=zd8 l n xs r' hr
    refine ⟨by simp;omega,?_⟩
    rw [h2,show n+1+xs.length=(n+xs.length)+1 by omega]
    simp
   ·cases h
theorem zbg:∀ l:List Value,vals l=l.map S1.val
 | []=>rfl
 | v::l=>by simp [vals,zbg l]
theorem zbr:∀ (l:List S1) (r:List Value),unvals l=some r→l=r.map S1.val
 | [],r,h=>by simp [unvals] at h;subst h;rfl
 | .val v :: l, r, h => by
   simp only [unvals] at h
   split at h
   ·rename_i r' hr
    cases h
    simp [←zbr l r' hr]
   ·cases h
 | .ptr _ _ _::l,r,h=>by simp [unvals] at h
 | .slc _ _ _ _::l,r,h=>by simp [unvals] at h
 | .gsl _ _::l,r,h=>by simp [unvals] at h
 | .clo _ _::l,r,h=>by simp [unvals] at h
 | .gptr _ _ _::l,r,h=>by simp [unvals] at h
 | .rsl _ _::l,r,h=>by simp [unvals] at h
 | .rptr _ _ _::l,r,h=>by simp [unvals] at h
 | .bnd _ _::l,r,h=>by simp [unvals] at h
def std:Ar where
 eq x y:=x == y
 lt x y:=decide (x<y)
 le x y:=decide (x≤y)
 add k x y:=k.wrap (x+y)
 sub k x y:=k.wrap (x-y)
 mul k x y:=k.wrap (x * y)
 shl k x y:=k.wrap (x * 2 ^ (min y.toNat k.bits))
 shr x y k:=x.fdiv (2 ^ (min y.toNat k.bits))
 band k x y:=k.wrap (BitVec.ofInt k.bits x &&& BitVec.ofInt k.bits y).toNat
 bor k x y:=k.wrap (BitVec.ofInt k.bits x ||| BitVec.ofInt k.bits y).toNat
 bxor k x y:=k.wrap (BitVec.ofInt k.bits x ^^^ BitVec.ofInt k.bits y).toNat
 bandn k x y:=k.wrap (BitVec.ofInt k.bits x &&& ~~~(BitVec.ofInt k.bits y)).toNat
 quo k x y:=k.wrap (x.tdiv y)
 rem x y:=x.tmod y
 cutok l u c:=decide (0≤l∧l≤u∧u≤c)
 cutb b l c z:=if c=l.toNat then b else b+l.toNat * z
 cutn l u:=u.toNat-l.toNat
 cutc c l:=c-l.toNat
 not b:=!b
 beq a b:=a == b
 seq a b:=a.toList == b.toList
 conv k n:=k.wrap n
 len n:=(n:Int)
 inb i n:=decide (0≤i∧i<n)
 idx b i s:=b+i.toNat * s
 get l b o:=l[b+o]?
 getN l b o n:=if b+o+n≤l.length then some ((l.drop (b+o)).take n) else none
 set l b o vs:=if b+o+vs.length≤l.length then some (l.take (b+o)++vs++l.drop (b+o+vs.length)) else none
 slen b:=(b.size:Int)
 mn x y:=if y<x then y else x
 mx x y:=if y > x then y else x
 eqn a b:=decide (a=b)
 addn a b:=a+b
 fits n m:=decide (n+m≤1000000)
 app l r:=l++r
 rows l b n z:=if b+n * z≤l.length∧((l.drop b).take (n * z)).all (fun u=>u.oneCell')=true then some ((l.drop b).take (n * z)) else none
 sinb i b:=decide (0≤i∧i<b.size)
 sat b i:=((b[i.toNat]?).getD 0).toNat
 cat a b:=a++b
 catok a b:=decide (a.size+b.size≤1000000000)
 ssl b l u:=b.extract l.toNat u.toNat
 sslok l u b:=decide (0≤l∧l≤u∧u≤b.size)
 tak l b n z:=(l.drop b).take (n * z)
 zeros l n:=(List.replicate n l).flatten
 capok n m:=decide (n≤m)
 sel b v w:=bif b then v else w
def isAggD:TypeDesc→Bool
 | .struct _ | .array _ _=>true
 | _=>false
def kOf:TypeDesc→TK
 | .int k=>.int k
 | .bool=>.bool
 | .string=>.string
 | .slice _=>.slice
 | .pointer _=>.ptr
 | _=>.other
def szOf (P:Program) (t:TypeId):Nat:=match P.info? t with|some i=>i.size|none=>0
def tiOf (P:Program) (t:TypeId):Option TI :=
 match P.info? t,P.underlying t with
 | some i, some d => match i.zero with
   | some z => some { k := kOf d, agg := isAggD d, size := i.size, zero := z.cells.toList
                      offs:=(match d with | .struct fs=>if fs.all (fun f=>decide (0<szOf P f.type)) then fs.toList.map (·.offset) else []|_=>[])
                      fsz:=(match d with | .struct fs=>if fs.all (fun f=>decide (0<szOf P f.type)) then fs.toList.map (fun f=>szOf P f.type) else []|_=>[])
                      esize:=(match d with | .slice e=>(match P.info? e with|some j=>if j.bytes≤1000000 then j.size else 0|none=>0)|_=>0)
                      etype:=(match d with | .slice e=>e | .array _ e=>e|_=>0)
                      ezero:=(match d with | .slice e=>(match P.info? e with|some j=>(match j.zero with|some z=>z.cells.toList|none=>[])|none=>[])|_=>[])
                      alen:=(match d with | .array n _=>n|_=>0)
                      asize:=(match d with | .array _ e=>szOf P e|_=>0) }
   | none=>none
 | _,_=>none
def TabOk (P:Program) (T:List (TypeId × TI)):Prop:=∀ t ti,look T t=some ti→tiOf P t=some ti
theorem zac {P:Program} {T:List (TypeId × TI)} (h:T.map (fun x=>tiOf P x.1)=T.map (fun x=>some x.2)):TabOk P T:=by
 induction T with
 | nil=>intro t ti h;simp [look] at h
 | cons x T ih =>
   obtain ⟨u,y⟩:=x;simp only [List.map_cons,List.cons.injEq] at h;intro t ti ht;simp only [look] at ht
   cases hb:Nat.beq u t with
   | true =>
     rw [hb] at ht;obtain rfl:u=t:=Nat.eq_of_beq_eq_true hb
     cases ht
     exact h.1
   | false=>rw [hb] at ht;exact ih h.2 t ti ht
def gslV (p:Nat × Nat) (n:Nat):Value:=match p.2 with
 | 0=>.slice none n 0
 | c+1=>.slice (some ⟨p.1,0,none⟩) n c
def dec:Nat→Nat × Nat
 | 0=>(0,0)
 | m + 1 => match dec m with
   | (a,0)=>(0,a+1)
   | (a,b+1)=>(a+1,b)
theorem zxe:∀ a s:Nat,(∃ m,dec m=(0,s+a))→∃ m,dec m=(a,s)
 | 0,s,h=>h
 | a + 1, s, h => by
   obtain ⟨m,hm⟩:=zxe a (s+1) (by rw [show s+1+a=s+(a+1) by omega];exact h)
   exact ⟨m+1,by simp [dec,hm]⟩
theorem zql:∀ s:Nat,∃ m,dec m=(0,s)
 | 0=>⟨0,rfl⟩
 | s + 1 => by
   obtain ⟨m,hm⟩:=zxe s 0 (by rw [Nat.zero_add];exact zql s)
   exact ⟨m+1,by simp [dec,hm]⟩
theorem zlg (a b:Nat):∃ m,dec m=(a,b):=zxe a b (zql (b+a))
def off (p:Nat × Nat):Nat:=(dec (p.2-1)).1
def room (p:Nat × Nat):Nat:=(dec (p.2-1)).2
def rslV (p:Nat × Nat) (n:Nat):Value:=match p.2 with
 | 0=>.slice none n 0
 | m+1=>.slice (some ⟨p.1,(dec m).1,none⟩) n (dec m).2
theorem zkw (p:Nat × Nat) (n:Nat):∃ A c,rslV p n=.slice A n c:=by
 unfold rslV
 split<;>exact ⟨_,_,rfl⟩
theorem zc3 {p:Nat × Nat} (h:p.2≠0) (n:Nat):rslV p n=.slice (some ⟨p.1,off p,none⟩) n (room p):=by
 unfold rslV off room
 split
 ·rename_i h0;exact absurd h0 h
 ·rename_i m hm;rw [hm];rfl
theorem zd1 {p:Nat × Nat} (h:p.2=0):room p=0:=by simp [room,h,dec]
def conc1 (ρ:Nat→Nat × Nat):S1→Value
 | .val v=>v
 | .ptr h b o=>.pointer (some ⟨(ρ h).1,(ρ h).2+(b+o),none⟩)
 | .slc h b n c=>.slice (some ⟨(ρ h).1,(ρ h).2+b,none⟩) n c
 | .gsl h n=>gslV (ρ h) n
 | .clo f hs=>.func (.func f) #[] (hs.map fun h=>Value.pointer (some ⟨(ρ h).1,(ρ h).2,none⟩)).toArray
 | .gptr h b o=>.pointer (some ⟨(ρ h).1,b+o,none⟩)
 | .rsl h n=>rslV (ρ h) n
 | .rptr h b o=>.pointer (some ⟨(ρ h).1,off (ρ h)+(b+o),none⟩)
 | .bnd f h=>.func (.func f) #[.pointer (some ⟨(ρ h).1,(ρ h).2,none⟩)] #[]
def concT (ρ:Nat→Nat × Nat):TV→Value
 | .one x=>conc1 ρ x
 | .agg l=>.agg (l.map (conc1 ρ)).toArray
def concV (ρ:Nat→Nat × Nat):SV→Value
 | .one x=>conc1 ρ x
 | .agg l=>.agg (l.map (conc1 ρ)).toArray
 | .tup l=>.tuple (l.map (concT ρ)).toArray
 | .any=>undef
def S1.ok (n:Nat):S1→Prop
 | .val _=>True
 | .ptr h _ _=>h<n
 | .slc h _ _ _=>h<n
 | .gsl h _=>h<n
 | .clo _ hs=>∀ h∈hs,h<n
 | .gptr h _ _=>h<n
 | .rsl h _=>h<n
 | .rptr h _ _=>h<n
 | .bnd _ h=>h<n
def TV.ok (n:Nat):TV→Prop
 | .one x=>x.ok n
 | .agg l=>∀ x∈l,x.ok n
def SV.ok (n:Nat):SV→Prop
 | .one x=>x.ok n
 | .agg l=>∀ x∈l,x.ok n
 | .tup l=>∀ x∈l,x.ok n
 | .any=>True
theorem S1.ok.mono {n m:Nat} (hnm:n≤m):∀ {x:S1},x.ok n→x.ok m
 | .val _,_=>trivial
 | .ptr _ _ _,h=>Nat.lt_of_lt_of_le h hnm
 | .slc _ _ _ _,h=>Nat.lt_of_lt_of_le h hnm
 | .gsl _ _,h=>Nat.lt_of_lt_of_le h hnm
 | .clo _ _,h=>fun k hk=>Nat.lt_of_lt_of_le (h k hk) hnm
 | .gptr _ _ _,h=>Nat.lt_of_lt_of_le h hnm
 | .rsl _ _,h=>Nat.lt_of_lt_of_le h hnm
 | .rptr _ _ _,h=>Nat.lt_of_lt_of_le h hnm
 | .bnd _ _,h=>Nat.lt_of_lt_of_le h hnm
theorem TV.ok.mono {n m:Nat} (hnm:n≤m):∀ {x:TV},x.ok n→x.ok m
 | .one _,h=>S1.ok.mono hnm h
 | .agg _,h=>fun x hx=>(h x hx).mono hnm
theorem SV.ok.mono {n m:Nat} (hnm:n≤m):∀ {x:SV},x.ok n→x.ok m
 | .one _,h=>S1.ok.mono hnm h
 | .agg _,h=>fun x hx=>(h x hx).mono hnm
 | .tup _,h=>fun x hx=>(h x hx).mono hnm
 | .any,_=>trivial
theorem za2 {ρ ρ':Nat→Nat × Nat} {n:Nat} (hρ:∀ h,h<n→ρ h=ρ' h):∀ {x:S1},x.ok n→conc1 ρ x=conc1 ρ' x
 | .val _,_=>rfl
 | .ptr h _ _,hx=>by simp only [conc1,hρ h hx]
 | .slc h _ _ _,hx=>by simp only [conc1,hρ h hx]
 | .gsl h _,hx=>by simp only [conc1,hρ h hx]
 | .clo f hs, hx => by
   simp only [conc1]
   rw [List.map_congr_left fun h hh=>by rw [hρ h (hx h hh)]]
 | .gptr h _ _,hx=>by simp only [conc1,hρ h hx]
 | .rsl h _,hx=>by simp only [conc1,hρ h hx]
 | .rptr h _ _,hx=>by simp only [conc1,hρ h hx]
 | .bnd _ h,hx=>by simp only [conc1,hρ h hx]
theorem zeo {ρ ρ':Nat→Nat × Nat} {n:Nat} (hρ:∀ h,h<n→ρ h=ρ' h) {l:List S1} (hl:∀ x∈l,x.ok n):l.map (conc1 ρ)=l.map (conc1 ρ') :=
 List.map_congr_left fun x hx=>za2 hρ (hl x hx)
theorem zpf {ρ ρ':Nat→Nat × Nat} {n:Nat} (hρ:∀ h,h<n→ρ h=ρ' h):∀ {x:TV},x.ok n→concT ρ x=concT ρ' x
 | .one _,h=>za2 hρ h
 | .agg _,h=>by simp only [concT,zeo hρ h]
theorem zaz {ρ ρ':Nat→Nat × Nat} {n:Nat} (hρ:∀ h,h<n→ρ h=ρ' h):∀ {x:SV},x.ok n→concV ρ x=concV ρ' x
 | .one _,h=>za2 hρ h
 | .agg _,h=>by simp only [concV,zeo hρ h]
 | .tup l,h=>by simp only [concV];rw [List.map_congr_left fun x hx=>zpf hρ (h x hx)]
 | .any,_=>rfl
theorem zcv (ρ:Nat→Nat × Nat) (v:SV) (h:(∀ l,v≠.tup l)∧v≠.any) (h1:∀ x∈v.cells,(conc1 ρ x).oneCell'=true):(concV ρ v).cells=(v.cells.map (conc1 ρ)).toArray:=by
 cases v with
 | one x =>
   have:=h1 x (by simp [SV.cells])
   simp only [concV,SV.cells,List.map_cons,List.map_nil]
   revert this
   cases conc1 ρ x<;>simp [Value.oneCell',Value.cells]
 | agg l=>simp [concV,SV.cells,Value.cells]
 | tup l=>exact absurd rfl (h.1 l)
 | any=>exact absurd rfl h.2
def MB.wr (p:Nat × Nat):MB→Bool
 | .own _ _ | .sym _ _ | .mrk _ _=>true
 | .ro _ | .rsym _ | .rs _ _=>false
 | .grow _ _ _ _=>!(p.2 == 0)
 | .dead | .obj _=>false
def MB.rd:MB→Bool
 | .ro _ | .rsym _=>true
 | .rs _ l=>!l.isEmpty
 | _=>false
def MB.wf (p:Nat × Nat) (i:Nat):MB→Prop
 | .obj o=>o.W i
 | b=>b.wr p=true∧i=p.1
def MB.rf (p:Nat × Nat) (i:Nat) (b:MB):Prop:=b.rd=true∧i=p.1
theorem MB.wf1 {p:Nat × Nat} {b:MB} (h:b.wr p=true):b.wf p p.1:=by cases b<;>first|exact ⟨h,rfl⟩|cases h
theorem MB.wfr {p:Nat × Nat} {i:Nat} {b:MB} (h:b.wf p i) (k:b.rf p i):False:=by
 cases b<;>first|(obtain ⟨k,_⟩:=k;cases k;done)|(obtain ⟨h,_⟩:=h;cases h)
def MB.ok (n:Nat):MB→Prop
 | .own _ l=>∀ x∈l,x.ok n
 | .sym _ _ | .rsym _ | .mrk _ _=>True
 | .ro l=>∀ x∈l,x.ok n
 | .grow _ _ _ _ | .dead | .rs _ _ | .obj _=>True
def BlkAt (ρ:Nat→Nat × Nat) (w:World) (p:Nat × Nat):MB→Prop
 | .own t l=>p.2=0∧w.heap[p.1]?=some (.cells (l.map (conc1 ρ)).toArray t (0,0))
 | .sym t l=>p.2=0∧w.heap[p.1]?=some (.cells l.toArray t (0,0))
 | .ro l=>∀ j x,l[j]?=some x→w.cell? ⟨p.1,p.2+j,none⟩=some (conc1 ρ x)
 | .rsym l=>∀ j v,l[j]?=some v→w.cell? ⟨p.1,p.2+j,none⟩=some v
 | .mrk t l=>p.2=0∧∃ fz:Nat × Nat,(fz=(0,0)∨l.length≤fz.1)∧w.heap[p.1]?=some (.cells l.toArray t fz)
 | .grow t z n l=>w.ownsRow 0 t z (gslV p n) n l∧∀ u∈l,u.oneCell'=true
 | .dead=>True
 | .rs n l=>(n≤room p∨(n=0∧p.2=0))∧(∀ j v,l[j]?=some v→w.cell? ⟨p.1,off p+j,none⟩=some v)∧∀ u∈l,u.oneCell'=true
 | .obj o=>o.Φ p w
theorem MB.ok.mono {n m:Nat} (hnm:n≤m):∀ {b:MB},b.ok n→b.ok m
 | .own _ _,h=>fun x hx=>(h x hx).mono hnm
 | .sym _ _,_=>trivial
 | .rsym _,_=>trivial
 | .mrk _ _,_=>trivial
 | .ro _,h=>fun x hx=>(h x hx).mono hnm
 | .grow _ _ _ _,_=>trivial
 | .dead,_=>trivial
 | .rs _ _,_=>trivial
 | .obj _,_=>trivial
theorem BlkAt.congr {ρ ρ':Nat→Nat × Nat} {n:Nat} (hρ:∀ h,h<n→ρ h=ρ' h) {w:World} {p:Nat × Nat}:∀ {b:MB},b.ok n→BlkAt ρ w p b→BlkAt ρ' w p b
 | .own _ l,hb,h=>⟨h.1,by rw [←zeo hρ hb];exact h.2⟩
 | .sym _ _,_,h=>h
 | .rsym _,_,h=>h
 | .mrk _ _,_,h=>h
 | .ro l,hb,h=>fun j x hx=>by rw [←za2 hρ (hb x (List.mem_of_getElem? hx))];exact h j x hx
 | .grow _ _ _ _,_,h=>h
 | .dead,_,h=>h
 | .rs _ _,_,h=>h
 | .obj _,_,h=>h
structure Sat (w0:World) (own:List Nat) (ρ:Nat→Nat × Nat) (mem:List MB) (w:World):Prop where
 gr:Gr (fun i=>i∈own) w0 w
 blk:∀ (h:Nat) (b:MB),mem[h]?=some b→BlkAt ρ w (ρ h) b
 ok:∀ b∈mem,b.ok mem.length
 fre:∀ (h:Nat) (b:MB),mem[h]?=some b→(∀ i,b.wf (ρ h) i→i∈own∨w0.heap.size≤i)∧(∀ i,b.rf (ρ h) i→i<w.heap.size)
 apt:∀ (h k:Nat) (b c:MB),mem[h]?=some b→mem[k]?=some c→h≠k→∀ i,b.wf (ρ h) i→¬ c.wf (ρ k) i∧¬ c.rf (ρ k) i
section
variable {w0:World} {own:List Nat} {ρ:Nat→Nat × Nat} {mem:List MB} {w:World}
theorem Sat.free (H:Sat w0 own ρ mem w) (h:Nat) (b:MB) (hb:mem[h]?=some b):(b.wr (ρ h)=true→(ρ h).1∈own∨w0.heap.size≤(ρ h).1)∧(b.rd=true→(ρ h).1<w.heap.size) :=
 ⟨fun hw=>(H.fre h b hb).1 _ (MB.wf1 hw),fun hr=>(H.fre h b hb).2 _ ⟨hr,rfl⟩⟩
theorem Sat.apart (H:Sat w0 own ρ mem w) (h k:Nat) (b c:MB) (hb:mem[h]?=some b) (hc:mem[k]?=some c) (hw:b.wr (ρ h)=true) (hcw:(c.wr (ρ k) || c.rd)=true) (hne:h≠k):(ρ h).1≠(ρ k).1:=fun e=>by
 have h1:=H.apt h k b c hb hc hne _ (MB.wf1 hw)
 rw [e] at h1
 cases hcr:c.rd with
 | true=>exact h1.2 ⟨hcr,rfl⟩
 | false =>
   rw [hcr,Bool.or_false] at hcw;exact h1.1 (MB.wf1 hcw)
end
theorem qaz {w:World} {t:TypeId} {z n:Nat} {p:Nat × Nat} {l:List Value} (h:w.ownsRow 0 t z (gslV p n) n l) (hw:MB.wr p (.grow t z n l)=true):∃ c,p.2=c+1∧gslV p n=.slice (some ⟨p.1,0,none⟩) n c∧p.1<w.heap.size:=by
 obtain ⟨g,q⟩:=p
 cases q with
 | zero=>simp [MB.wr] at hw
 | succ c =>
   refine ⟨c,rfl,rfl,?_⟩
   exact (h.lt g (by simp [gslV,Value.ownBlock])).2
theorem BlkAt.low {ρ:Nat→Nat × Nat} {w:World} {p:Nat × Nat} {b:MB} (hk:BlkAt ρ w p b) {i:Nat} (hw:b.wf p i):i<w.heap.size:=by
 cases b with
 | own t l=>obtain ⟨_,rfl⟩:=hw;exact (Array.getElem?_eq_some_iff.1 hk.2).1
 | sym t l=>obtain ⟨_,rfl⟩:=hw;exact (Array.getElem?_eq_some_iff.1 hk.2).1
 | ro l=>cases hw.1
 | rsym l=>cases hw.1
 | mrk t l=>obtain ⟨_,rfl⟩:=hw;obtain ⟨_,fz,_,h1⟩:=hk;exact (Array.getElem?_eq_some_iff.1 h1).1
 | grow t z n l =>
   obtain ⟨hw,rfl⟩:=hw;obtain ⟨_,_,_,h3⟩:=qaz hk.1 hw;exact h3
 | dead=>cases hw.1
 | rs n l=>cases hw.1
 | obj o=>exact o.low _ _ _ hk hw
theorem Sat.low {w0:World} {own:List Nat} {ρ:Nat→Nat × Nat} {mem:List MB} {w:World} (H:Sat w0 own ρ mem w) {h:Nat} {b:MB} (hb:mem[h]?=some b) {i:Nat} (hw:b.wf (ρ h) i∨b.rf (ρ h) i):i<w.heap.size :=
 hw.elim (fun hw=>(H.blk h b hb).low hw) fun hr=>(H.fre h b hb).2 i hr
theorem Sat.lt {w0:World} {own:List Nat} {ρ:Nat→Nat × Nat} {mem:List MB} {w:World} (H:Sat w0 own ρ mem w) {h:Nat} {b:MB} (hb:mem[h]?=some b) (hw:(b.wr (ρ h) || b.rd)=true):(ρ h).1<w.heap.size:=by
 rw [Bool.or_eq_true] at hw
 exact H.low hb (hw.imp MB.wf1 fun hr=>⟨hr,rfl⟩)
theorem BlkAt.keep {ρ:Nat→Nat × Nat} {w w':World} {p:Nat × Nat}:∀ {b:MB},(∀ i,b.wf p i∨b.rf p i→w'.heap[i]?=w.heap[i]?)→BlkAt ρ w p b→BlkAt ρ w' p b
 | .own _ _,hp,h=>⟨h.1,(hp _ (.inl ⟨rfl,rfl⟩)).trans h.2⟩
 | .sym _ _,hp,h=>⟨h.1,(hp _ (.inl ⟨rfl,rfl⟩)).trans h.2⟩
 | .ro _,hp,h=>fun j x hx=>(World.cell?_of_block (hp _ (.inr ⟨rfl,rfl⟩))).trans (h j x hx)
 | .rsym _,hp,h=>fun j x hx=>(World.cell?_of_block (hp _ (.inr ⟨rfl,rfl⟩))).trans (h j x hx)
 | .mrk _ _,hp,h=>⟨h.1,by obtain ⟨_,fz,h1,h2⟩:=h;exact ⟨fz,h1,(hp _ (.inl ⟨rfl,rfl⟩)).trans h2⟩⟩
 | .grow t z n l, hp, h => by
   obtain ⟨⟨h1,h2⟩,h3⟩:=h;refine ⟨⟨h1,?_⟩,h3⟩
   rcases h2 with h2|⟨g,cap,cur,e,h4,h5,h6⟩
   ·exact .inl h2
   ·refine .inr ⟨g,cap,cur,e,h4,?_,h6⟩
    obtain ⟨b,q⟩:=p
    cases q with
    | zero=>simp [gslV] at e
    | succ c =>
      simp only [gslV,Value.slice.injEq,Option.some.injEq,Addr.mk.injEq] at e;obtain ⟨⟨rfl,_⟩,_⟩:=e
      exact (hp _ (.inl ⟨by simp [MB.wr],rfl⟩)).trans h5
 | .dead,_,_=>trivial
 | .rs _ [],_,h=>⟨h.1,fun j v hv=>by simp at hv,h.2.2⟩
 | .rs _ (x::l),hp,h=>⟨h.1,fun j v hv=>(World.cell?_of_block (hp _ (.inr ⟨rfl,rfl⟩))).trans (h.2.1 j v hv),h.2.2⟩
 | .obj o,hp,h=>o.stable _ _ _ (fun i hi=>hp i (.inl hi)) h
theorem Sat.move {w0:World} {own:List Nat} {ρ ρ':Nat→Nat × Nat} {mem mem':List MB} {w w':World} (H:Sat w0 own ρ mem w) (ch nw:Nat→Prop) (src:Nat→Nat) (U:Nat→Prop) (hU:∀ i,U i→(∃ (h:Nat) (b:MB),ch h∧mem[h]?=some b∧b.wf (ρ h) i)∨w.heap.size≤i) (hG:Gr U w w') (hinj:∀ j k,¬ nw j→¬ nw k→src j=src k→j=k)
 (hok:∀ b∈mem',b.ok mem'.length)
 (hkeep:∀ (k:Nat) (b:MB),mem'[k]?=some b→¬ nw k→¬ ch (src k)∧∃ b0,mem[src k]?=some b0∧(∀ i,b.wf (ρ' k) i→b0.wf (ρ (src k)) i)∧(∀ i,b.rf (ρ' k) i→b0.rf (ρ (src k)) i)∧(BlkAt ρ w' (ρ (src k)) b0→BlkAt ρ' w' (ρ' k) b))
 (hnew:∀ (k:Nat) (b:MB),mem'[k]?=some b→nw k→BlkAt ρ' w' (ρ' k) b∧(∀ i,b.wf (ρ' k) i→U i)∧(∀ i,b.rf (ρ' k) i→i<w'.heap.size∧(U i∨∃ (h:Nat) (c:MB),mem[h]?=some c∧c.rf (ρ h) i)))
 (hnn:∀ (k j:Nat) (b c:MB),nw k→nw j→mem'[k]?=some b→mem'[j]?=some c→k≠j→∀ i,b.wf (ρ' k) i→¬ c.wf (ρ' j) i∧¬ c.rf (ρ' j) i):Sat w0 own ρ' mem' w':=by
 have hUo:∀ i,U i→i∈own∨w0.heap.size≤i:=fun i hi=>by
  rcases hU i hi with ⟨h,b,_,hb,hw⟩|h1
  ·exact (H.fre h b hb).1 i hw
  ·exact .inr (Nat.le_trans H.gr.size h1)
 have far:∀ (h:Nat) (b:MB) i,¬ ch h→mem[h]?=some b→b.wf (ρ h) i∨b.rf (ρ h) i→¬ U i:=fun h b i hc hb hw hu=>by
  rcases hU i hu with ⟨j,c,hj,hcj,hcw⟩|h1
  ·have:=H.apt j h c b hcj hb (fun e=>hc (e ▸ hj)) i hcw
   exact hw.elim this.1 this.2
  ·have:=H.low hb hw
   omega
 have far2:∀ (k:Nat) (b:MB) i,mem'[k]?=some b→¬ nw k→b.wf (ρ' k) i∨b.rf (ρ' k) i→¬ U i:=fun k b i hb hn hw=>by
  obtain ⟨h1,b0,h2,h3,h4,_⟩:=hkeep k b hb hn;exact far _ b0 i h1 h2 (hw.imp (h3 i) (h4 i))
 refine ⟨⟨hG.os.trans H.gr.os,hG.tape.trans H.gr.tape,hG.output.trans H.gr.output,Nat.le_trans H.gr.size hG.size,fun i hi hno=>?_⟩,fun k b hb=>?_,hok,fun k b hb=>?_,fun k j b c hb hc hne i hw=>?_⟩
 ·rw [hG.block i (Nat.lt_of_lt_of_le hi H.gr.size) (fun hu=>by rcases hUo i hu with h1|h1;exact hno h1;omega)]
  exact H.gr.block i hi hno
 ·rcases Classical.em (nw k) with hn|hn
  ·exact (hnew k b hb hn).1
  ·obtain ⟨h1,b0,h2,_,_,h5⟩:=hkeep k b hb hn
   exact h5 ((H.blk _ b0 h2).keep fun i hi=>hG.block i (H.low h2 hi) (far _ b0 i h1 h2 hi))
 ·rcases Classical.em (nw k) with hn|hn
  ·obtain ⟨_,h2,h3⟩:=hnew k b hb hn
   exact ⟨fun i hi=>hUo i (h2 i hi),fun i hi=>(h3 i hi).1⟩
  ·obtain ⟨h1,b0,h2,h3,h4,_⟩:=hkeep k b hb hn
   exact ⟨fun i hi=>(H.fre _ b0 h2).1 i (h3 i hi),fun i hi=>Nat.lt_of_lt_of_le ((H.fre _ b0 h2).2 i (h4 i hi)) hG.size⟩
 ·rcases Classical.em (nw k) with hk|hk<;>rcases Classical.em (nw j) with hj|hj
  ·exact hnn k j b c hk hj hb hc hne i hw
  ·have hu:=(hnew k b hb hk).2.1 i hw
   exact ⟨fun h=>far2 j c i hc hj (.inl h) hu,fun h=>far2 j c i hc hj (.inr h) hu⟩
  ·refine ⟨fun h=>far2 k b i hb hk (.inl hw) ((hnew j c hc hj).2.1 i h),fun h=>?_⟩
   rcases ((hnew j c hc hj).2.2 i h).2 with hu|⟨q,d,hd,hdr⟩
   ·exact far2 k b i hb hk (.inl hw) hu
   ·obtain ⟨_,b0,h2,h3,_⟩:=hkeep k b hb hk
    rcases Classical.em (src k=q) with e|e
    ·subst e
     obtain rfl:=Option.some.inj (hd.symm.trans h2);exact MB.wfr (h3 i hw) hdr
    ·exact (H.apt _ q b0 d h2 hd e i (h3 i hw)).2 hdr
  ·obtain ⟨_,b0,h2,h3,_⟩:=hkeep k b hb hk
   obtain ⟨_,c0,k2,k3,k4,_⟩:=hkeep j c hc hj
   have:=H.apt _ _ b0 c0 h2 k2 (fun e=>hne (hinj k j hk hj e)) i (h3 i hw)
   exact ⟨fun h=>this.1 (k3 i h),fun h=>this.2 (k4 i h)⟩
theorem qdl {w w':World} {U:Nat→Prop} (h:Below w.heap.size w w'):Gr U w w':=⟨h.os,h.tape,h.output,h.size,fun i hi _=>h.block i hi⟩
theorem Sat.below {w0:World} {own:List Nat} {ρ:Nat→Nat × Nat} {mem:List MB} {w w':World} (H:Sat w0 own ρ mem w) (hb:Below w.heap.size w w'):Sat w0 own ρ mem w' :=
 H.move (fun _=>False) (fun _=>False) id (fun _=>False) (fun i h=>h.elim) (qdl hb) (fun _ _ _ _ e=>e) H.ok (fun k b hk _=>⟨fun h=>h,b,hk,fun _ h=>h,fun _ h=>h,fun h=>h⟩) (fun _ _ _ h=>h.elim) (fun _ _ _ _ h=>h.elim)
theorem Sat.drew {w0:World} {own:List Nat} {ρ:Nat→Nat × Nat} {mem:List MB} {w:World} (H:Sat w0 own ρ mem w):Sat w0 own ρ mem { w with drawn:=w.drawn+1 } :=
 H.below (zph (Below.refl _ _) 1)
theorem Sat.snoc {w0:World} {own:List Nat} {ρ ρ':Nat→Nat × Nat} {mem:List MB} {w w':World} {b0:MB} (H:Sat w0 own ρ mem w) (U:Nat→Prop) (hU:∀ i,U i→(i<w.heap.size→i∈own∨w0.heap.size≤i)∧∀ (k:Nat) (b:MB),mem[k]?=some b→¬ b.wf (ρ k) i∧¬ b.rf (ρ k) i) (hG:Gr U w w') (hok:b0.ok (mem.length+1)) (hρ:∀ h,h<mem.length→ρ h=ρ' h) (hat:BlkAt ρ' w' (ρ' mem.length) b0)
 (hwf:∀ i,b0.wf (ρ' mem.length) i→U i) (hrf:∀ i,b0.rf (ρ' mem.length) i→i<w'.heap.size∧((∀ (k:Nat) (b:MB),mem[k]?=some b→¬ b.wf (ρ k) i))):Sat w0 own ρ' (mem++[b0]) w':=by
 have split:∀ (h:Nat) (b:MB),(mem++[b0])[h]?=some b→(h<mem.length∧mem[h]?=some b)∨(h=mem.length∧b=b0):=fun h b hb=>by
  rcases Nat.lt_trichotomy h mem.length with h1|h1|h1
  ·rw [List.getElem?_append_left h1] at hb;exact .inl ⟨h1,hb⟩
  ·subst h1;simp at hb;exact .inr ⟨rfl,hb.symm⟩
  ·rw [List.getElem?_eq_none (by simp;omega)] at hb;cases hb
 have far:∀ i,U i→i∈own∨w0.heap.size≤i:=fun i hi=>by
  rcases Nat.lt_or_ge i w.heap.size with h1|h1
  ·exact (hU i hi).1 h1
  ·exact .inr (Nat.le_trans H.gr.size h1)
 refine ⟨⟨hG.os.trans H.gr.os,hG.tape.trans H.gr.tape,hG.output.trans H.gr.output,Nat.le_trans H.gr.size hG.size,fun i hi hno=>?_⟩,fun h b hb=>?_,fun b hb=>?_,fun h b hb=>?_,fun h k b c hb hc hne i hw=>?_⟩
 ·rw [hG.block i (Nat.lt_of_lt_of_le hi H.gr.size) (fun hu=>by rcases far i hu with h1|h1;exact hno h1;omega)]
  exact H.gr.block i hi hno
 ·rcases split h b hb with ⟨h1,h2⟩|⟨rfl,rfl⟩
  ·rw [←hρ h h1]
   refine (BlkAt.congr hρ (H.ok b (List.mem_of_getElem? h2)) (H.blk h b h2)).keep fun i hi=>hG.block i (H.low h2 hi) fun hu=>?_
   have:=(hU i hu).2 h b h2
   exact hi.elim this.1 this.2
  ·exact hat
 ·rw [List.length_append]
  rcases List.mem_append.1 hb with h1|h1
  ·exact (H.ok b h1).mono (by simp)
  ·obtain rfl:b=b0:=by simpa using h1
   exact hok
 ·rcases split h b hb with ⟨h1,h2⟩|⟨rfl,rfl⟩
  ·rw [←hρ h h1];exact ⟨(H.fre h b h2).1,fun i hr=>Nat.lt_of_lt_of_le ((H.fre h b h2).2 i hr) hG.size⟩
  ·exact ⟨fun i hi=>far i (hwf i hi),fun i hi=>(hrf i hi).1⟩
 ·rcases split h b hb with ⟨h1,h2⟩|⟨rfl,rfl⟩<;>rcases split k c hc with ⟨k1,k2⟩|⟨rfl,rfl⟩
  ·rw [←hρ h h1] at hw;rw [←hρ k k1];exact H.apt h k b c h2 k2 hne i hw
  ·rw [←hρ h h1] at hw
   exact ⟨fun h3=>((hU i (hwf i h3)).2 h b h2).1 hw,fun h3=>(hrf i h3).2 h b h2 hw⟩
  ·rw [←hρ k k1];exact (hU i (hwf i hw)).2 k c k2
  ·exact absurd rfl hne
theorem Sat.new {w0:World} {own:List Nat} {ρ ρ':Nat→Nat × Nat} {mem:List MB} {w:World} (H:Sat w0 own ρ mem w) {t:TypeId} {l:List S1} (hl:∀ x∈l,x.ok mem.length)
 (hρ:∀ h,h<mem.length→ρ h=ρ' h) (hn:ρ' mem.length=(w.heap.size,0)):Sat w0 own ρ' (mem++[.own t l]) (w.alloc (.cells (l.map (conc1 ρ)).toArray t)):=by
 refine H.snoc (fun i=>i=w.heap.size) (fun i hi=>⟨fun h=>by omega,fun k b hb=>⟨fun h=>?_,fun h=>?_⟩⟩) ((Gr.refl _ w).alloc _) (fun x hx=>(hl x hx).mono (by simp)) hρ (by rw [hn];exact ⟨rfl,by rw [←zeo hρ hl];exact heap_alloc_new w _⟩) (fun i hi=>by rw [hn] at hi;exact hi.2) (fun i hi=>by cases hi.1)
 ·have:=H.low hb (.inl h);omega
 ·have:=H.low hb (.inr h);omega
theorem zdz (w:World) (g i:Nat) (c:Array Value) (h:i≠g):(w.setRow g c).heap[i]?=w.heap[i]?:=by
 unfold World.setRow;simp [Array.getElem?_modify,Ne.symm h]
theorem Sat.put {w0:World} {own:List Nat} {ρ:Nat→Nat × Nat} {mem:List MB} {w w':World} (H:Sat w0 own ρ mem w) {h:Nat} {b b':MB} (hb:mem[h]?=some b) (hw:b.wr (ρ h)=true) (hw':b'.rd=false) (hok:b'.ok mem.length)
 (hat:BlkAt ρ w' (ρ h) b') (hos:w'.os=w.os) (htape:w'.tape=w.tape) (hout:w'.output=w.output) (hsz:w'.heap.size=w.heap.size) (hoth:∀ i,i≠(ρ h).1→w'.heap[i]?=w.heap[i]?) (hno:∀ o,b'≠.obj o):Sat w0 own ρ (mem.set h b') w':=by
 have hlt:h<mem.length:=(List.getElem?_eq_some_iff.1 hb).1
 refine H.move (fun k=>k=h) (fun k=>k=h) id (fun i=>i=(ρ h).1) (fun i hi=>.inl ⟨h,b,rfl,hb,by subst hi;exact MB.wf1 hw⟩) ⟨hos,htape,hout,Nat.le_of_eq hsz.symm,fun i _ hi=>hoth i hi⟩ (fun _ _ _ _ e=>e) (fun c hc=>?_) (fun k c hc hn=>⟨hn,c,by rw [List.getElem?_set_ne (Ne.symm hn)] at hc;exact hc,fun _ h=>h,fun _ h=>h,fun h=>h⟩) (fun k c hc hn=>?_) (fun k j c d hk hj _ _ hne=>absurd (hk.trans hj.symm) hne)
 ·rw [List.length_set]
  rcases List.mem_or_eq_of_mem_set hc with h1|rfl
  ·exact H.ok c h1
  ·exact hok
 ·subst hn
  rw [List.getElem?_set_self hlt] at hc;obtain rfl:=Option.some.inj hc
  refine ⟨hat,fun i hi=>?_,fun i hi=>by have h1:=hi.1;rw [hw'] at h1;cases h1⟩
  cases b'<;>first|exact hi.2|exact absurd rfl (hno _)
theorem za5:∀ (p:PT) (i:Nat) (x:SV) (j:Nat) (u:SV),tget (tset p i x) j=some u→(j=i∧u=x∧∃ v,tget p i=some v)∨(j≠i∧tget p j=some u)
 | .nil,i,x,j,u,h=>by simp [tset,tget] at h
 | .node v l r, 0, x, j, u, h => by
   cases v with
   | none =>
     simp only [tset] at h
     cases j with
     | zero=>simp [tget] at h
     | succ j=>exact .inr ⟨by omega,by simpa only [tget] using h⟩
   | some v =>
     simp only [tset] at h
     cases j with
     | zero=>simp only [tget] at h;exact .inl ⟨rfl,(Option.some.inj h).symm,v,rfl⟩
     | succ j=>exact .inr ⟨by omega,by simpa only [tget] using h⟩
 | .node v l r, n + 1, x, j, u, h => by
   simp only [tset] at h
   cases hb:Nat.beq (n % 2) 0 with
   | true =>
     rw [hb] at h;simp only [cond_true] at h
     cases j with
     | zero=>exact .inr ⟨by omega,h⟩
     | succ j =>
       simp only [tget] at h ⊢
       cases hj:Nat.beq (j % 2) 0 with
       | true =>
         rw [hj] at h;simp only [cond_true] at h
         rcases za5 l (n / 2) x (j / 2) u h with ⟨h1,h2,h3⟩|⟨h1,h2⟩
         ·have:=Nat.eq_of_beq_eq_true hb
          have:=Nat.eq_of_beq_eq_true hj
          exact .inl ⟨by omega,h2,by rw [hb];exact h3⟩
         ·exact .inr ⟨by omega,h2⟩
       | false =>
         rw [hj] at h
         refine .inr ⟨fun e=>?_,h⟩
         obtain rfl:j=n:=by omega
         rw [hb] at hj
         cases hj
   | false =>
     rw [hb] at h;simp only [cond_false] at h
     cases j with
     | zero=>exact .inr ⟨by omega,h⟩
     | succ j =>
       simp only [tget] at h ⊢
       cases hj:Nat.beq (j % 2) 0 with
       | true =>
         rw [hj] at h
         refine .inr ⟨fun e=>?_,h⟩
         obtain rfl:j=n:=by omega
         rw [hb] at hj
         cases hj
       | false =>
         rw [hj] at h;simp only [cond_false] at h
         rcases za5 r (n / 2) x (j / 2) u h with ⟨h1,h2,h3⟩|⟨h1,h2⟩
         ·have hb':n % 2=1:=by
           have:n % 2≠0:=fun e=>by rw [e] at hb;cases hb
           omega
          have hj':j % 2=1:=by
           have:j % 2≠0:=fun e=>by rw [e] at hj;cases hj
           omega
          exact .inl ⟨by omega,h2,by rw [hb];exact h3⟩
         ·exact .inr ⟨by omega,h2⟩
theorem zcd:∀ (f:Nat) (p:PT) (i:Nat) (x:SV) (j:Nat) (u:SV),tget (tinsert f p i x) j=some u→(j=i∧u=x)∨tget p j=some u
 | 0,p,i,x,j,u,h=>.inr h
 | f + 1, .nil, 0, x, j, u, h => by
   cases j with
   | zero=>simp only [tinsert,tget] at h;exact .inl ⟨rfl,(Option.some.inj h).symm⟩
   | succ j=>simp only [tinsert,tget] at h;cases hb:Nat.beq (j % 2) 0<;>rw [hb] at h<;>simp at h
 | f + 1, .node v l r, 0, x, j, u, h => by
   cases j with
   | zero=>simp only [tinsert,tget] at h;exact .inl ⟨rfl,(Option.some.inj h).symm⟩
   | succ j=>exact .inr (by simpa only [tinsert,tget] using h)
 | f + 1, .nil, n + 1, x, j, u, h => by
   simp only [tinsert] at h
   cases hb:Nat.beq (n % 2) 0<;>rw [hb] at h<;>simp only [cond_true,cond_false] at h<;>cases j<;>simp only [tget] at h
   ·cases h
   ·rename_i j
    cases hj:Nat.beq (j % 2) 0<;>rw [hj] at h<;>simp only [cond_true,cond_false] at h
    ·rcases zcd f .nil (n / 2) x (j / 2) u h with ⟨h1,h2⟩|h1
     ·have hb':n % 2=1:=by
       have:n % 2≠0:=fun e=>by rw [e] at hb;cases hb
       omega
      have hj':j % 2=1:=by
       have:j % 2≠0:=fun e=>by rw [e] at hj;cases hj
       omega
      exact .inl ⟨by omega,h2⟩
     ·simp [tget] at h1
    ·simp at h
   ·cases h
   ·rename_i j
    cases hj:Nat.beq (j % 2) 0<;>rw [hj] at h<;>simp only [cond_true,cond_false] at h
    ·simp at h
    ·rcases zcd f .nil (n / 2) x (j / 2) u h with ⟨h1,h2⟩|h1
     ·have:=Nat.eq_of_beq_eq_true hb
      have:=Nat.eq_of_beq_eq_true hj
      exact .inl ⟨by omega,h2⟩
     ·simp [tget] at h1
 | f + 1, .node v l r, n + 1, x, j, u, h => by
   simp only [tinsert] at h
   cases hb:Nat.beq (n % 2) 0<;>rw [hb] at h<;>simp only [cond_true,cond_false] at h<;>cases j<;>simp only [tget] at h ⊢
   ·exact .inr h
   ·rename_i j
    cases hj:Nat.beq (j % 2) 0<;>rw [hj] at h<;>simp only [cond_true,cond_false] at h ⊢
    ·rcases zcd f r (n / 2) x (j / 2) u h with ⟨h1,h2⟩|h1
     ·have hb':n % 2=1:=by
       have:n % 2≠0:=fun e=>by rw [e] at hb;cases hb
       omega
      have hj':j % 2=1:=by
       have:j % 2≠0:=fun e=>by rw [e] at hj;cases hj
       omega
      exact .inl ⟨by omega,h2⟩
     ·exact .inr h1
    ·exact .inr h
   ·exact .inr h
   ·rename_i j
    cases hj:Nat.beq (j % 2) 0<;>rw [hj] at h<;>simp only [cond_true,cond_false] at h ⊢
    ·exact .inr h
    ·rcases zcd f l (n / 2) x (j / 2) u h with ⟨h1,h2⟩|h1
     ·have:=Nat.eq_of_beq_eq_true hb
      have:=Nat.eq_of_beq_eq_true hj
      exact .inl ⟨by omega,h2⟩
     ·exact .inr h1
theorem zgk:∀ (l:List SV) (p:PT) (i:Nat) (j:Nat) (u:SV),tget (tfrom p i l) j=some u→(i≤j∧l[j-i]?=some u)∨tget p j=some u
 | [],p,i,j,u,h=>.inr h
 | x :: l, p, i, j, u, h => by
   simp only [tfrom] at h
   rcases zgk l _ (i+1) j u h with ⟨h1,h2⟩|h1
   ·exact .inl ⟨by omega,by rw [show j-i=(j-(i+1))+1 by omega];simpa using h2⟩
   ·rcases zcd 20 p i x j u h1 with ⟨rfl,rfl⟩|h3
    ·exact .inl ⟨Nat.le_refl _,by simp⟩
    ·exact .inr h3
structure Rel (ρ:Nat→Nat × Nat) (tm:PT) (a:Act):Prop where
 defers:a.defers=[]
 get:∀ t v,tget tm t=some v→∃ u,a.tmps[t]?=some u∧(v≠.any→u=concV ρ v)
theorem Rel.at_ {ρ:Nat→Nat × Nat} {tm:PT} {a:Act} (h:Rel ρ tm a) {t:Nat} {v:SV} (hv:tget tm t=some v) (hne:v≠.any):a.tmps[t]?=some (concV ρ v):=by
 obtain ⟨u,h1,h2⟩:=h.get t v hv;rw [h1,h2 hne]
def TmOk (n:Nat) (tm:PT):Prop:=∀ t v,tget tm t=some v→v.ok n
section
variable {P:Program} {T:List (TypeId × TI)} {ρ:Nat→Nat × Nat} {tm:PT} {n:Nat} {a:Act}
theorem zar (ha:Rel ρ tm a) (htm:TmOk n tm) {x:Operand} {v:SV} (h:ev tm x=some v):a.eval x=concV ρ v∧v.ok n:=by
 cases x with
 | tmp t =>
   simp only [ev] at h
   split at h
   ·cases h
   ·rename_i hne
    refine ⟨?_,htm t v h⟩
    simp [Act.eval,Array.getD_eq_getD_getElem?,ha.at_ h (fun e=>hne (by rw [h,e]))]
 | const c=>simp only [ev] at h;cases h;exact ⟨rfl,trivial⟩
 | global g=>simp only [ev] at h;cases h;exact ⟨rfl,trivial⟩
 | func f=>simp only [ev] at h;cases h;exact ⟨rfl,trivial⟩
theorem za1 (hT:TabOk P T) {t:TypeId} {ti:TI} (h:look T t=some ti):∃ i d z,P.info? t=some i∧P.underlying t=some d∧i.zero=some z∧i.size=ti.size∧isAggD d=ti.agg∧z.cells.toList=ti.zero∧kOf d=ti.k:=by
 have:=hT t ti h
 unfold tiOf at this
 split at this
 ·rename_i i d hi hd
  split at this
  ·rename_i z hz
   cases this
   exact ⟨i,d,z,hi,hd,hz,rfl,rfl,rfl,rfl⟩
  ·cases this
 ·cases this
theorem qcc {d:TypeDesc} {k:IntKind} (h:kOf d=.int k):d=.int k:=by cases d<;>simp_all [kOf]
theorem zzq {d:TypeDesc} (h:kOf d=.bool):d=.bool:=by cases d<;>simp_all [kOf]
theorem zgu {d:TypeDesc} (h:kOf d=.string):d=.string:=by cases d<;>simp_all [kOf]
theorem qcb {d:TypeDesc} (h:kOf d=.ptr):∃ e,d=.pointer e:=by cases d<;>simp_all [kOf]
theorem zdg {d:TypeDesc} (h:kOf d=.slice):∃ e,d=.slice e:=by cases d<;>simp_all [kOf]
theorem zj3 (hT:TabOk P T) {t:TypeId} {ti:TI} (h:look T t=some ti) {j k:Nat} (hk:nth ti.offs j=some k):∃ fs f,P.underlying t=some (.struct fs)∧fs[j]?=some f∧f.offset=k∧0<szOf P f.type∧nth ti.fsz j=some (szOf P f.type):=by
 have:=hT t ti h
 unfold tiOf at this
 split at this
 ·rename_i i d hi hd
  split at this
  ·rename_i z hz
   cases this
   simp only [zak] at hk ⊢
   cases d with
   | struct fs =>
     simp only at hk ⊢
     split at hk
     ·rename_i hall
      rw [if_pos hall];simp only [List.getElem?_map,Option.map_eq_some_iff,Array.getElem?_toList] at hk;obtain ⟨f,hf,hfo⟩:=hk
      refine ⟨fs,f,hd,hf,hfo,?_,by simp [hf]⟩
      have:=Array.all_eq_true_iff_forall_mem.1 hall f (Array.mem_of_getElem? hf)
      simpa using this
     ·simp at hk
   | _=>simp at hk
  ·cases this
 ·cases this
theorem zfv (hT:TabOk P T) {t:TypeId} {ti:TI} (h:look T t=some ti) (he:ti.esize≠0):P.underlying t=some (.slice ti.etype)∧szOf P ti.etype=ti.esize∧∃ i,P.info? ti.etype=some i∧i.size=ti.esize∧i.bytes≤1000000∧(ti.ezero.length=ti.esize→∃ z,i.zero=some z∧z.cells.toList=ti.ezero):=by
 have:=hT t ti h
 unfold tiOf at this
 split at this
 ·rename_i i d hi hd
  split at this
  ·rename_i z hz
   cases this
   cases d with
   | slice e =>
     simp only at he ⊢
     cases hj:P.info? e with
     | none=>simp [hj] at he
     | some j =>
       simp only [hj] at he ⊢
       split at he
       ·rename_i hle
        rw [if_pos hle]
        refine ⟨hd,by simp [szOf,hj],j,rfl,rfl,hle,fun hl=>?_⟩
        cases hjz:j.zero with
        | none=>simp [hjz] at hl;omega
        | some z=>exact ⟨z,rfl,rfl⟩
       ·exact absurd rfl he
   | _=>simp at he
  ·cases this
 ·cases this
end
end Eng
end Go.Proofs.YtpigpajgjdcagaaGreat
