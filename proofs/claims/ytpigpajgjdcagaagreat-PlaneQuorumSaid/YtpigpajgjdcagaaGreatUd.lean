/- Parts. -/
import Derived.Test.YtpigpajgjdcagaaGreatUc
set_option linter.unusedSimpArgs false
set_option linter.unusedVariables false
set_option maxRecDepth 100000
set_option maxHeartbeats 60000000
namespace Go.Proofs.YtpigpajgjdcagaaGreat
open Go.RowKit
namespace Eng
def ordChk0 (ops:Array Oper) (m:Nat):Array Bool→List (Nat × Bool)→Bool
 | listed,[]=>Region.seqB .any ops (ops.size-m) m listed
 | listed,(i,sole)::r=>Nat.blt i m && (Region.ready .any ops listed).contains i && (if sole then decide (Region.ready .any ops listed=[i]) else Region.free .any ops listed i) && ordChk0 ops m (listed.setIfInBounds i true) r
def unfork (j:Nat):List (Nat × Bool)→List (Nat × Bool)
 | []=>[]
 | (n,s)::r=>bif Nat.beq n j then unfork j r else bif Nat.ble 1000 n then (n % 1000,true)::unfork j r else (n,s)::unfork j r
def boff (q:Nat):Nat:=q-5000000
def bagChk (ops:Array Oper) (m:Nat) (K:Array Bool→Bool):Nat→Array Bool→List Nat→Bool
 | _,listed,[]=>K listed
 | 0,_,_::_=>false
 | n+1,listed,x::l=>!(Region.ready .any ops listed).isEmpty && (Region.ready .any ops listed).all fun i=>(x::l).contains i && Nat.blt i m && bagChk ops m K n (listed.setIfInBounds i true) ((x::l).erase i)
def bagOf:List (Nat × Bool)→List Nat
 | []=>[]
 | x::r=>bif Nat.ble 5000000 x.1 then boff x.1::bagOf r else []
def restOf:List (Nat × Bool)→List (Nat × Bool)
 | []=>[]
 | x::r=>bif Nat.ble 5000000 x.1 then restOf r else x::r
def readsOf (o oj:Oper):Bool:=match oj.dst with
 | some d => match o.op with
   | .build _ fs => fs.any fun x => match x.2 with
     | .tmp t=>t == d
     | _=>false
   | _=>false
 | none=>false
def bagDep (ops:Array Oper) (bag:List Nat):Bool:=bag.all fun i=>bag.all fun j=>match ops[i]?,ops[j]? with
 | some o,some oj=>!readsOf o oj || o.after.any fun e=>Region.binds .any e && e.on == j
 | _,_=>true
def ordChk (ops:Array Oper) (m:Nat):Array Bool→List (Nat × Bool)→Bool
 | listed,[]=>Region.seqB .any ops (ops.size-m) m listed
 | listed, (i, sole) :: r => (Nat.ble 5000000 i && Nat.ble ops.size 1000 && (bagDep ops (bagOf ((i, sole) :: r)) && bagChk ops m (fun l => ordChk0 ops m l (restOf ((i, sole) :: r))) (bagOf ((i, sole) :: r)).length listed (bagOf ((i, sole) :: r)))) || ((Nat.blt i m && (Region.ready .any ops listed).contains i && (if sole then decide (Region.ready .any ops listed = [i]) else Region.free .any ops listed i) && ordChk ops m (listed.setIfInBounds i true) r) ||
   (Nat.ble 1000 i && Nat.ble ops.size 1000 && Nat.blt (i % 1000) m && Nat.blt (i / 1000-1) m && (decide (Region.ready .any ops listed=[i % 1000,i / 1000-1]) || decide (Region.ready .any ops listed=[i / 1000-1,i % 1000])) && Nat.beq ((unfork (i / 1000-1) r).length+1) r.length &&
    ordChk ops m (listed.setIfInBounds (i % 1000) true) r && ordChk0 ops m (listed.setIfInBounds (i / 1000-1) true) ((i % 1000,true)::unfork (i / 1000-1) r)))
theorem zii {ops:Array Oper} {m:Nat}:∀ {r:List (Nat × Bool)} {listed:Array Bool},ordChk0 ops m listed r=true→ordChk ops m listed r=true
 | [],_,h=>h
 | (i, sole) :: r, listed, h => by
   simp only [ordChk0,Bool.and_eq_true] at h;obtain ⟨⟨⟨h1,h2⟩,h3⟩,h4⟩:=h;simp only [ordChk,Bool.or_eq_true,Bool.and_eq_true];exact .inr (.inl ⟨⟨⟨h1,h2⟩,h3⟩,zii h4⟩)
def regChk (ops:Array Oper) (ord:List (Nat × Bool)) (m:Nat):Bool :=
 Region.noSelect ops && Nat.ble m ops.size && (Nat.beq m ops.size || (Region.sinkB .any ops m && Region.chainB .any ops m)) && Nat.beq ord.length m && ordChk ops m (Array.replicate ops.size false) ord
def codeChk (D:Ords):Code→Bool
 | .seq a b=>codeChk D a && codeChk D b
 | .cond _ a b=>codeChk D a && codeChk D b
 | .block _ b=>codeChk D b
 | .loop b=>codeChk D b
 | .region id ops draw=>!draw || (match ordOf D id with|some (ord,m,_)=>regChk ops ord m|none=>true)
 | _=>true
def listedOf (all:List Oper):List Nat→Array Bool
 | []=>Array.replicate all.length false
 | i::l=>(listedOf all l).setIfInBounds i true
structure HeadOk (ops:Array Oper) (m:Nat):Prop where
 sel:Region.noSelect ops=true
 le:m≤ops.size
 tail:m=ops.size∨(Region.sinkB .any ops m=true∧Region.chainB .any ops m=true)
theorem HeadOk.low {ops:Array Oper} {m:Nat} (H:HeadOk ops m) {listed:Array Bool} (inv:HeadInv .any ops m listed) {i j:Nat} (hi:i<m) (hun:listed.getD i true=false) (hj:j∈Region.ready .any ops listed):j<m:=by
 rcases Nat.lt_or_ge m ops.size with h|h
 ·rcases H.tail with h1|⟨h1,h2⟩
  ·omega
  ·rcases Nat.lt_or_ge j m with h3|h3
   ·exact h3
   ·exact absurd hj (tail_waits h1 h2 h inv _ i rfl hi hun j h3)
 ·obtain ⟨_,oj,hoj,_⟩:=mem_ready.1 hj
  have:=(Array.getElem?_eq_some_iff.1 hoj).1
  omega
section
variable {P:Program} {ops:Array Oper} {S:World→Prop} {Q:Exit→Act→World→Prop}
theorem zgw {n g i:Nat} {oi:Oper} {v:Value} (hi:ops[i]?=some oi) (O:HeadOk ops n) (hQ:∀ c a w,Q (.panic c) (a.put oi.dst v) w→Q (.panic c) a w) (hin:i<n) :
 ∀ (m : Nat) (listed : Array Bool) (a : Act) (w : World), HeadInv .any ops n listed →
   (∀ j oj,ops[j]?=some oj→j≠i→listed.getD j true=false→(∀ e∈oj.after,Region.binds .any e=true→e.on≠i)→oi.apart ops oj=true) →
   i∈Region.ready .any ops listed→YieldsIf P ops S oi v a→S w →
   heldAny P .any ops Q S n g m (listed.setIfInBounds i true) (a.put oi.dst v) w→heldAny P .any ops Q S n g (m+1) listed a w:=by
 have hsel:=Region.noSelect_spec O.sel
 intro m
 induction m with
 | zero =>
   intro listed a w inv _ hr hy hS H
   have hun:=(mem_ready.1 hr).1
   refine ⟨fun h=>(by rw [h] at hr;cases hr),fun j hj=>?_⟩
   have hjn:=O.low inv hin hun hj
   refine ⟨hjn,?_⟩
   by_cases hji:j=i
   ·subst hji;exact hy.wpOp hi hS ⟨hS,H⟩
   ·have:=H.1 j (ready_mono hj hji)
    omega
 | succ m ih =>
   intro listed a w inv hfree hr hy hS H
   have hun:=(mem_ready.1 hr).1
   refine ⟨fun h=>(by rw [h] at hr;cases hr),fun j hj=>?_⟩
   have hjn:=O.low inv hin hun hj
   refine ⟨hjn,?_⟩
   by_cases hji:j=i
   ·subst hji;exact hy.wpOp hi hS ⟨hS,H⟩
   ·have h1:=(H.2 j (ready_mono hj hji)).2
    obtain ⟨hjun,oj,hoj,hall⟩:=mem_ready.1 hj
    have hnot:∀ e∈oj.after,Region.binds .any e=true→e.on≠i:=fun e he hb heq=>by
     have h1:=hall e he hb
     rw [heq,getD_both hun] at h1
     cases h1
    have h2:=wpOp_putIf hoj (hfree j oj hoj hji hjun hnot) (fun cs b=>hsel i oi cs b hi) (fun cs b=>hsel j oj cs b hoj) hQ hy h1
    have hfree':∀ k ok,ops[k]?=some ok→k≠i→(listed.setIfInBounds j true).getD k true=false →
     (∀ e∈ok.after,Region.binds .any e=true→e.on≠i)→oi.apart ops ok=true:=fun k ok hk hki hun hno=>by
     refine hfree k ok hk hki ?_ hno
     by_cases hjk:j=k
     ·subst hjk;exact hjun
     ·rw [getD_set_ne true hjk] at hun;exact hun
    refine wpOp_mono (fun a' w' h3=>⟨h3.2.1,ih (listed.setIfInBounds j true) a' w' (inv.set hj hjn) hfree' (ready_mono hr (Ne.symm hji)) h3.1 h3.2.1 ?_⟩) h2
    rw [Array.setIfInBounds_comm _ _ hji];exact h3.2.2
theorem zzu {n g m i j:Nat} {listed:Array Bool} {a:Act} {w:World} (hr:∀ x∈Region.ready .any ops listed,x=i∨x=j) (hne:Region.ready .any ops listed≠[]) (hin:i<n) (hjn:j<n)
 (hi:wpOp P ops Q i (fun a' w'=>S w'∧heldAny P .any ops Q S n g m (listed.setIfInBounds i true) a' w') a w) (hj:wpOp P ops Q j (fun a' w'=>S w'∧heldAny P .any ops Q S n g m (listed.setIfInBounds j true) a' w') a w):heldAny P .any ops Q S n g (m+1) listed a w :=
 ⟨fun h=>absurd h hne,fun x hx=>by
  rcases hr x hx with rfl|rfl
  ·exact ⟨hin,hi⟩
  ·exact ⟨hjn,hj⟩⟩
theorem zfw {n g m i:Nat} {listed:Array Bool} {a:Act} {w:World} (hr:Region.ready .any ops listed=[i]) (hin:i<n)
 (h:wpOp P ops Q i (fun a' w'=>S w'∧heldAny P .any ops Q S n g m (listed.setIfInBounds i true) a' w') a w):heldAny P .any ops Q S n g (m+1) listed a w :=
 ⟨by rw [hr];simp,fun j hj=>by
  rw [hr] at hj
  obtain rfl:j=i:=by simpa using hj
  exact ⟨hin,h⟩⟩
end
def S0 (ρ:Nat→Nat × Nat) (W:List Nat) (m0:List MB) (w:World):Prop:=∀ (h:Nat) (b:MB),m0[h]?=some b→inL W h=false→BlkAt ρ w (ρ h) b
def Goes (P:Program) (f:FuncId):Prop:=∀ args w,(callFunc f args).run P w=.ok (.enter f args) w
theorem zbe {P : Program} {f : FuncId} {fn : Func} (hf : P.funcs[f]? = some fn) (hn : (fn.name == "runtime.NumGoroutine") = false) (hb : fn.body.isNone = false) : Goes P f := fun args w => by
 simp [callFunc,go_sem,hf]
 rw [if_neg (by simpa using hn),if_neg (by cases h:fn.body<;>simp_all)]
theorem za9:∀ l:List Oper,stripL l=l.map strip1
 | []=>rfl
 | o::l=>by simp [stripL,za9 l]
def cont (P:Program) (D:Ords) (fn:Func) (R:Ending→World→Prop) (L:Nat→Act→World→Prop) (ρ:Nat→Nat × Nat):List It→Exit→Act→World→Prop
 | []=>bodyPost P fn R
 | .code c::k=>Exit.then (fun a w=>∀ c0,stripC c0=c→codeChk D c0=true→c0.wp P (cont P D fn R L ρ k) a w) (cont P D fn R L ρ k)
 | .ops all rest::k=>Exit.then (wpList P all.toArray (cont P D fn R L ρ k) rest) (cont P D fn R L ρ k)
 | .head all _ W m0 ls ord m::k=>Exit.then (fun a w=>∀ l0,stripL l0=all→HeadOk l0.toArray m→HeadInv .any l0.toArray m (listedOf l0 ls)→ordChk l0.toArray m (listedOf l0 ls) ord=true→S0 ρ W m0 w∧heldAny P .any l0.toArray (cont P D fn R L ρ k) (S0 ρ W m0) m (l0.length-m) ord.length (listedOf l0 ls) a w) (cont P D fn R L ρ k)
 | .call f args dst::k=>Exit.then (fun a w=>Goes P f∧Calls P f (args.map (concV ρ)).toArray w fun e w'=>∃ v,e=.returned v∧cont P D fn R L ρ k .normal (a.put dst v) w') (cont P D fn R L ρ k)
 | .blk id::k=>Exit.inBlock id (cont P D fn R L ρ k)
 | .again j::k=>Exit.then (L j) (cont P D fn R L ρ k)
 | .ret::_=>Exit.then (fun a w=>bodyPost P fn R .ret a w) (bodyPost P fn R)
def It.ok (mem:List MB):It→Prop
 | .head _ n0 W m0 _ _ _=>n0=m0.length∧n0≤mem.length∧(∀ b∈m0,b.ok n0)∧∀ h,h<n0→inL W h=false→mem[h]?=m0[h]?
 | .call _ args _=>∀ v∈args,v.ok mem.length
 | _=>True
structure Env where
 P:Program
 T:List (TypeId × TI)
 D:Ords
 fn:Func
 w0:World
 own:List Nat
 ρ0:List (Nat × Nat)
 L:Nat→Act→World→Prop
structure Env.Ok (E:Env):Prop where
 tab:TabOk E.P E.T
 mixed:E.P.follows .mixedOrders=true
def Good (E:Env) (R:Ending→World→Prop) (st:St):Prop :=
 ∀ ρ w a, (∀ (h : Nat) p, E.ρ0[h]? = some p → ρ h = p) → E.ρ0.length ≤ st.mem.length → Sat E.w0 E.own ρ st.mem w → TmOk st.mem.length st.tm → Rel ρ st.tm a →
   (∀ it∈st.items,it.ok st.mem)→cont E.P E.D E.fn R E.L ρ st.items .normal a w
section
variable {P:Program} {D:Ords} {fn:Func} {R:Ending→World→Prop} {L:Nat→Act→World→Prop} {ρ ρ':Nat→Nat × Nat}
theorem qaf (k:List It) (a:Act) (w:World):cont P D fn R L ρ k .ret a w=bodyPost P fn R .ret a w:=by
 induction k with
 | nil=>rfl
 | cons it k ih=>cases it<;>first|exact ih|rfl
theorem zg1 (k:List It) (c:List PanicEntry) (d:Option Tmp) (v:Value) (a:Act) (w:World):cont P D fn R L ρ k (.panic c) (a.put d v) w→cont P D fn R L ρ k (.panic c) a w:=by
 induction k with
 | nil=>intro h;cases d<;>exact h
 | cons it k ih =>
   cases it
   case ret=>intro h;cases d<;>exact h
   all_goals exact ih
theorem zf9 {id:Nat}:∀ {k k':List It},exitTo id k=some k'→∀ (a:Act) (w:World),cont P D fn R L ρ k' .normal a w→cont P D fn R L ρ k (.exit id) a w
 | [],_,h=>by simp [exitTo] at h
 | .blk j :: k, k', h => by
   simp only [exitTo] at h;intro a w hk;simp only [cont,Exit.inBlock]
   cases hb:Nat.beq j id with
   | true =>
     rw [hb] at h;obtain rfl:j=id:=Nat.eq_of_beq_eq_true hb
     cases h
     rw [if_pos rfl];exact hk
   | false =>
     rw [hb] at h
     have hne:id≠j:=fun e=>by subst e;rw [Nat.beq_refl] at hb;cases hb
     rw [if_neg hne];exact zf9 h a w hk
 | .code c :: k, k', h => fun a w hk => by
   simp only [exitTo] at h;exact zf9 (k:=k) h a w hk
 | .again c :: k, k', h => fun a w hk => by
   simp only [exitTo] at h;exact zf9 (k:=k) h a w hk
 | .ops _ _::_,_,h=>by simp [exitTo] at h
 | .head _ _ _ _ _ _ _::_,_,h=>by simp [exitTo] at h
 | .call _ _ _::_,_,h=>by simp [exitTo] at h
 | .ret::_,_,h=>by simp [exitTo] at h
theorem zgh {W:List Nat} {m0:List MB} (hρ:∀ h,h<m0.length→ρ h=ρ' h) (hok:∀ b∈m0,b.ok m0.length):S0 ρ W m0=S0 ρ' W m0:=by
 funext w
 refine propext ⟨fun H h b hb hw=>?_,fun H h b hb hw=>?_⟩
 ·have hl:=(List.getElem?_eq_some_iff.1 hb).1
  rw [←hρ h hl];exact (H h b hb hw).congr hρ (hok b (List.mem_of_getElem? hb))
 ·have hl:=(List.getElem?_eq_some_iff.1 hb).1
  rw [hρ h hl]
  exact (H h b hb hw).congr (fun h hh=>(hρ h hh).symm) (hok b (List.mem_of_getElem? hb))
theorem za4 {mem:List MB} (hρ:∀ h,h<mem.length→ρ h=ρ' h):∀ {k:List It},(∀ it∈k,it.ok mem)→cont P D fn R L ρ k=cont P D fn R L ρ' k
 | [],_=>rfl
 | it :: k, h => by
   have ih:=za4 hρ (k:=k) fun j hj=>h j (by simp [hj])
   have h0:=h it (by simp)
   cases it with
   | code c=>simp only [cont,ih]
   | ops all rest=>simp only [cont,ih]
   | head all n0 W m0 ls ord m =>
     obtain ⟨h1,h2,h3,_⟩:=h0;subst h1
     simp only [cont,ih,zgh (ρ:=ρ) (ρ':=ρ') (W:=W) (m0:=m0) (fun h hh=>hρ h (by omega)) h3]
   | call f args dst =>
     have:args.map (concV ρ)=args.map (concV ρ'):=List.map_congr_left fun v hv=>zaz hρ (h0 v hv)
     simp only [cont,ih,this]
   | blk id=>simp only [cont,ih]
   | again j=>simp only [cont,ih]
   | ret=>rfl
end
section
variable {E:Env} {R:Ending→World→Prop}
theorem zbz {ρ:Nat→Nat × Nat} {tm:PT} {a:Act} (ha:Rel ρ tm a) (d:Option Tmp) (v:SV):Rel ρ (putE tm d v) (a.put d (concV ρ v)):=by
 cases d with
 | none=>exact ha
 | some d =>
   refine ⟨ha.defers,fun t u hu=>?_⟩
   simp only [putE] at hu
   rcases za5 tm d v t u hu with ⟨rfl,rfl,v',hv'⟩|⟨h1,h2⟩
   ·obtain ⟨u',hu',_⟩:=ha.get t v' hv'
    have:=(Array.getElem?_eq_some_iff.1 hu').1
    exact ⟨concV ρ u,by simp [Act.put,this],fun _=>rfl⟩
   ·have:=ha.get t u h2
    simp only [Act.put];rw [Array.getElem?_setIfInBounds_ne (Ne.symm h1)];exact this
theorem zck {tm:PT} {n:Nat} (htm:TmOk n tm) {d:Option Tmp} {v:SV} (hv:v.ok n):TmOk n (putE tm d v):=by
 cases d with
 | none=>exact htm
 | some d =>
   intro t u hu
   rcases za5 tm d v t u hu with ⟨_,rfl,_⟩|⟨_,h2⟩
   ·exact hv
   ·exact htm t u h2
theorem TmOk.mono {tm:PT} {n m:Nat} (h:TmOk n tm) (hnm:n≤m):TmOk m tm:=fun t v hv=>(h t v hv).mono hnm
theorem Rel.ext {ρ ρ':Nat→Nat × Nat} {tm:PT} {n:Nat} {a:Act} (ha:Rel ρ tm a) (htm:TmOk n tm) (hρ:∀ h,h<n→ρ h=ρ' h):Rel ρ' tm a :=
 ⟨ha.defers,fun t v hv=>by rw [←zaz hρ (htm t v hv)];exact ha.get t v hv⟩
def wantB (x:Bool × Bool):Bool:=match x.1 with|true=>x.2|false=>notb x.2
theorem zhr {ρ:Nat→Nat × Nat} {all:List Oper} {tm:PT} {a:Act} (ha:Rel ρ tm a) {o:Oper} {x:Bool × Bool} (h:wantE all tm o=some x):Region.wanted o (yielded all.toArray a.tmps)=wantB x:=by
 unfold wantE at h;unfold Region.wanted
 split at h
 ·rename_i hg
  cases h
  simp [hg,wantB]
 ·rename_i j want hg
  simp only [hg]
  split at h
  ·rename_i g hj
   rw [zak] at hj
   split at h
   ·rename_i d hd
    split at h
    ·rename_i c hc
     have hy:yielded all.toArray a.tmps j=some c:=by simp [yielded,hj,hd,ha.at_ hc (by simp),concV,conc1]
     rw [hy]
     cases h
     cases c<;>cases want<;>rfl
    ·rename_i c hc
     have hy:yielded all.toArray a.tmps j=none:=by simp [yielded,hj,hd,ha.at_ hc (by simp),concV,conc1]
     rw [hy]
     cases h
     rfl
    ·cases h
   ·cases h
  ·cases h
theorem zqi {ρ:Nat→Nat × Nat} {tm:PT} {a:Act} {n:Nat} (ha:Rel ρ tm a) (htm:TmOk n tm):∀ {l:List Operand} {vs:List SV},evs tm l=some vs→l.map a.eval=vs.map (concV ρ)∧∀ v∈vs,v.ok n
 | [],vs,h=>by simp only [evs] at h;cases h;simp
 | x :: l, vs, h => by
   simp only [evs] at h
   split at h
   ·rename_i v r hv hr
    cases h
    obtain ⟨h1,h2⟩:=zar ha htm hv;obtain ⟨h3,h4⟩:=zqi ha htm hr
    exact ⟨by simp [h1,h3],by simpa using ⟨h2,h4⟩⟩
   ·cases h
theorem zll {P:Program} {ρ:Nat→Nat × Nat} {tm:PT} {a:Act} {n:Nat} (ha:Rel ρ tm a) (htm:TmOk n tm) {o:Oper} {f:FuncId} {args:List SV} (h:callE tm o.op=some (f,args)) (hgo:Goes P f) (w:World) :
 (execOp a.eval o).run P w=.ok (.enter f (args.map (concV ρ)).toArray) w:=by
 unfold callE at h
 split at h
 ·rename_i c hop
  split at h
  ·rename_i g hcal
   split at h
   ·rename_i vs hvs
    cases h
    obtain ⟨h1,_⟩:=zqi ha htm hvs
    have hg:=hgo (args.map (concV ρ)).toArray w
    have har:c.args.map a.eval=(args.map (concV ρ)).toArray:=Array.ext' (by simp [h1])
    unfold execOp;simp [hop,resolve,hcal,har,Deferred.ofValue,Act.eval,invoke,hg]
   ·cases h
  ·rename_i t hcal
   split at h
   ·rename_i g hs vs ht hvs
    cases h
    obtain ⟨h1,_⟩:=zqi ha htm hvs
    have hg:=hgo ((vs++hs.map fun h=>SV.one (.ptr h 0 0)).map (concV ρ)).toArray w
    have har:c.args.map a.eval=(vs.map (concV ρ)).toArray:=Array.ext' (by simp [h1])
    have het:a.eval (.tmp t)=.func (.func f) #[] (hs.map fun h=>Value.pointer (some ⟨(ρ h).1,(ρ h).2,none⟩)).toArray:=by
     simp [Act.eval,Array.getD_eq_getD_getElem?,ha.at_ ht (by simp),concV,conc1]
    have hsum:(vs.map (concV ρ)).toArray++(hs.map fun h=>Value.pointer (some ⟨(ρ h).1,(ρ h).2,none⟩)).toArray=((vs++hs.map fun h=>SV.one (.ptr h 0 0)).map (concV ρ)).toArray:=Array.ext' (by simp [concV,conc1])
    unfold execOp;simp only [hop,resolve,hcal,har,het,Deferred.ofValue,Sem.run_bind,Sem.run_pure,Result.andThen_ok,invoke];simp only [Array.empty_append,hsum,hg]
   ·rename_i g hd vs ht hvs
    cases h
    obtain ⟨h1,_⟩:=zqi ha htm hvs
    have hg:=hgo ((SV.one (.ptr hd 0 0)::vs).map (concV ρ)).toArray w
    have har:c.args.map a.eval=(vs.map (concV ρ)).toArray:=Array.ext' (by simp [h1])
    have het:a.eval (.tmp t)=.func (.func f) #[Value.pointer (some ⟨(ρ hd).1,(ρ hd).2,none⟩)] #[]:=by
     simp [Act.eval,Array.getD_eq_getD_getElem?,ha.at_ ht (by simp),concV,conc1]
    have hsum:#[Value.pointer (some ⟨(ρ hd).1,(ρ hd).2,none⟩)]++(vs.map (concV ρ)).toArray=((SV.one (.ptr hd 0 0)::vs).map (concV ρ)).toArray:=Array.ext' (by simp [concV,conc1])
    unfold execOp;simp only [hop,resolve,hcal,har,het,Deferred.ofValue,Sem.run_bind,Sem.run_pure,Result.andThen_ok,invoke];simp only [Array.append_empty,hsum,hg]
   ·cases h
  ·cases h
 ·cases h
theorem zlf {tm:PT} {n:Nat} (htm:TmOk n tm):∀ {l:List Operand} {vs:List SV},evs tm l=some vs→∀ v∈vs,v.ok n
 | [],vs,h=>by simp only [evs] at h;cases h;simp
 | x :: l, vs, h => by
   simp only [evs] at h
   split at h
   ·rename_i v r hv hr
    cases h
    have h1:v.ok n:=by
     cases x with
     | tmp t =>
       simp only [ev] at hv
       split at hv
       ·cases hv
       ·exact htm t v hv
     | const c=>simp only [ev] at hv;cases hv;trivial
     | global g=>simp only [ev] at hv;cases hv;trivial
     | func f=>simp only [ev] at hv;cases hv;trivial
    simpa using ⟨h1,zlf htm hr⟩
   ·cases h
theorem zlm {tm:PT} {n:Nat} (htm:TmOk n tm) {op:Op} {f:FuncId} {args:List SV} (h:callE tm op=some (f,args)):∀ v∈args,v.ok n:=by
 unfold callE at h
 split at h
 ·split at h
  ·split at h
   ·rename_i vs hvs
    cases h
    exact zlf htm hvs
   ·cases h
  ·split at h
   ·rename_i g hs vs ht hvs
    cases h
    intro v hv
    rcases List.mem_append.1 hv with hv|hv
    ·exact zlf htm hvs v hv
    ·obtain ⟨k,hk,rfl⟩:=List.mem_map.1 hv
     exact htm _ _ ht k hk
   ·rename_i g hd vs ht hvs
    cases h
    intro v hv
    rcases List.mem_cons.1 hv with rfl|hv
    ·have h5:=htm _ _ ht
     exact h5
    ·exact zlf htm hvs v hv
   ·cases h
  ·cases h
 ·cases h
theorem zci {mem mem':List MB} {k:List It} (hk:∀ it∈k,it.ok mem) (hl:mem.length≤mem'.length) (hsame:∀ it∈k,∀ (all:List Oper) (n0:Nat) (W:List Nat) (m0:List MB) (ls:List Nat) (ord:List (Nat × Bool)) (m:Nat),it=.head all n0 W m0 ls ord m→∀ h,h<n0→inL W h=false→mem'[h]?=mem[h]?):∀ it∈k,it.ok mem':=by
 intro it hit
 have h1:=hk it hit
 cases it with
 | head all n0 W m0 ls ord m =>
   obtain ⟨a1,a2,a3,a4⟩:=h1
   exact ⟨a1,by omega,a3,fun h hh hw=>(hsame _ hit all n0 W m0 ls ord m rfl h hh hw).trans (a4 h hh hw)⟩
 | call f args dst=>exact fun v hv=>(h1 v hv).mono hl
 | _=>trivial
theorem zby {l0:List Oper} {i:Nat} {o:Oper} (h:(stripL l0)[i]?=some o):∃ o0,l0[i]?=some o0∧strip1 o0=o:=by
 rw [za9,List.getElem?_map,Option.map_eq_some_iff] at h;exact h
theorem zkq (l0:List Oper) (tmps:Array Value) (j:Nat):yielded (stripL l0).toArray tmps j=yielded l0.toArray tmps j:=by
 unfold yielded;rw [za9];simp only [List.getElem?_toArray,List.getElem?_map]
 cases l0[j]?<;>rfl
theorem zg6 (l0:List Oper) (tmps:Array Value) (o:Oper):Region.wanted (strip1 o) (yielded (stripL l0).toArray tmps)=Region.wanted o (yielded l0.toArray tmps):=by
 rw [show yielded (stripL l0).toArray tmps=yielded l0.toArray tmps from funext (zkq l0 tmps)]
 rfl
theorem zek {P:Program} {Q:Exit→Act→World→Prop} (l0:List Oper):∀ (r:List Oper) (a:Act) (w:World),wpList P (stripL l0).toArray Q (stripL r) a w→wpList P l0.toArray Q r a w
 | [],_,_,h=>h
 | o :: r, a, w, h => by
   simp only [stripL,wpList] at h ⊢;rw [zg6] at h
   split
   ·rename_i hw
    rw [if_pos hw] at h
    rcases h with h|h
    ·exact .inl (Oper.wp_mono (fun a w=>zek l0 r a w) h)
    ·exact .inr h
   ·rename_i hw
    rw [if_neg hw] at h;exact zek l0 r _ _ h
end
end Eng
namespace Eng
section
variable {E:Env} {R:Ending→World→Prop}
theorem zbu {items items':List It} {tm:PT} {mem:List MB} (h:Good E R ⟨items',tm,mem⟩)
 (hi:(∀ it∈items,it.ok mem)→∀ it∈items',it.ok mem)
 (hc:∀ ρ a w,cont E.P E.D E.fn R E.L ρ items' .normal a w→cont E.P E.D E.fn R E.L ρ items .normal a w):Good E R ⟨items,tm,mem⟩ :=
 fun ρ w a hρ hl H htm ha hit=>hc ρ _ w (h ρ w a hρ hl H htm ha (hi hit))
theorem zd9 {P:It→Prop} {a b:It} {k:List It} (ha:P a) (hb:P b) (hk:∀ x∈k,P x):∀ x∈a::b::k,P x:=by
 intro x hx;simp only [List.mem_cons] at hx
 rcases hx with rfl|rfl|hx
 ·exact ha
 ·exact hb
 ·exact hk x hx
theorem zbh {P:It→Prop} {a:It} {k:List It} (ha:P a) (hk:∀ x∈k,P x):∀ x∈a::k,P x:=by
 intro x hx;simp only [List.mem_cons] at hx
 rcases hx with rfl|hx
 ·exact ha
 ·exact hk x hx
theorem tl {P:It→Prop} {a:It} {k:List It} (h:∀ x∈a::k,P x):∀ x∈k,P x:=fun x hx=>h x (by simp [hx])
theorem hd {P:It→Prop} {a:It} {k:List It} (h:∀ x∈a::k,P x):P a:=h a (by simp)
theorem zex {id:Nat} {P:It→Prop}:∀ {k k':List It},exitTo id k=some k'→(∀ x∈k,P x)→∀ x∈k',P x
 | [],_,h,_=>by simp [exitTo] at h
 | .blk j :: k, k', h, hk => by
   simp only [exitTo] at h
   cases hb:Nat.beq j id<;>rw [hb] at h
   ·exact zex (k:=k) h (tl hk)
   ·cases h;exact tl hk
 | .code c::k,k',h,hk=>zex (k:=k) (by simpa only [exitTo] using h) (tl hk)
 | .again c::k,k',h,hk=>zex (k:=k) (by simpa only [exitTo] using h) (tl hk)
 | .ops _ _::_,_,h,_=>by simp [exitTo] at h
 | .head _ _ _ _ _ _ _::_,_,h,_=>by simp [exitTo] at h
 | .call _ _ _::_,_,h,_=>by simp [exitTo] at h
 | .ret::_,_,h,_=>by simp [exitTo] at h
theorem zwu {k:List It} {tm:PT} {mem:List MB} (h:Good E R ⟨k,tm,mem⟩):Good E R ⟨.code .skip::k,tm,mem⟩ :=
 zbu h tl fun _ _ _ hk c0 h0 _=>by
  cases c0<;>simp only [stripC] at h0<;>try (cases h0;done)
  exact wp_skip hk
theorem zz4 {id:Nat} {k:List It} {tm:PT} {mem:List MB} (h:Good E R ⟨k,tm,mem⟩):Good E R ⟨.blk id::k,tm,mem⟩ :=
 zbu h tl fun _ _ _ hk=>hk
theorem zzy {all:List Oper} {k:List It} {tm:PT} {mem:List MB} (h:Good E R ⟨k,tm,mem⟩):Good E R ⟨.ops all []::k,tm,mem⟩ :=
 zbu h tl fun _ _ _ hk=>hk
theorem zzw {a b:Code} {k:List It} {tm:PT} {mem:List MB} (h:Good E R ⟨.code a::.code b::k,tm,mem⟩):Good E R ⟨.code (.seq a b)::k,tm,mem⟩:=by
 refine zbu h (fun hi=>zd9 trivial trivial (tl hi)) fun _ _ _ hk c0 h0 hc=>?_
 cases c0<;>simp only [stripC] at h0<;>try (cases h0;done)
 rename_i a0 b0
 cases h0
 simp only [codeChk,Bool.and_eq_true] at hc
 refine wp_seq (wp_mono (hk a0 rfl hc.1) fun e a w he=>?_)
 cases e<;>first|exact he b0 rfl hc.2|exact he
theorem zsa {id:Nat} {b:Code} {k:List It} {tm:PT} {mem:List MB} (h:Good E R ⟨.code b::.blk id::k,tm,mem⟩):Good E R ⟨.code (.block id b)::k,tm,mem⟩:=by
 refine zbu h (fun hi=>zd9 trivial trivial (tl hi)) fun _ _ _ hk c0 h0 hc=>?_
 cases c0<;>simp only [stripC] at h0<;>try (cases h0;done)
 rename_i id0 b0
 cases h0
 refine wp_block (wp_mono (hk b0 rfl hc) fun e a w he=>?_)
 cases e<;>exact he
theorem zw3 {id:Nat} {k k':List It} {tm:PT} {mem:List MB} (he:exitTo id k=some k') (h:Good E R ⟨k',tm,mem⟩):Good E R ⟨.code (.exit id)::k,tm,mem⟩ :=
 zbu h (fun hi=>zex he (tl hi)) fun _ _ _ hk c0 h0 _=>by
  cases c0<;>simp only [stripC] at h0<;>try (cases h0;done)
  cases h0
  exact wp_exit (zf9 he _ _ hk)
theorem zzx {k:List It} {tm:PT} {mem:List MB} (h:Good E R ⟨.ret::k,tm,mem⟩):Good E R ⟨.code .ret::k,tm,mem⟩ :=
 zbu h (fun hi=>zbh trivial (tl hi)) fun _ _ _ hk c0 h0 _=>by
  cases c0<;>simp only [stripC] at h0<;>try (cases h0;done)
  exact wp_ret (by rw [qaf];exact hk)
theorem znf {x:Operand} {a b:Code} {t:Bool} {k:List It} {tm:PT} {mem:List MB} (hx:ev tm x=some (.one (.val (.bool t)))) (h:Good E R ⟨.code (if t then a else b)::k,tm,mem⟩):Good E R ⟨.code (.cond x a b)::k,tm,mem⟩:=by
 intro ρ w a hρ hl H htm ha hit c0 h0 hc
 cases c0<;>simp only [stripC] at h0<;>try (cases h0;done)
 rename_i x0 a0 b0
 cases h0
 simp only [codeChk,Bool.and_eq_true] at hc
 have:=h ρ w a hρ hl H htm ha (zbh trivial (tl hit)) (if t then a0 else b0) (by cases t<;>rfl) (by cases t<;>simp [hc])
 exact wp_cond (zar ha htm hx).1 this
theorem zo8 {id:Nat} {ops:Array Oper} {k:List It} {tm:PT} {mem:List MB} (h:Good E R ⟨.ops ops.toList ops.toList::k,tm,mem⟩):Good E R ⟨.code (.region id ops false)::k,tm,mem⟩ :=
 zbu h (fun hi=>zbh trivial (tl hi)) fun _ _ _ hk c0 h0 hc0=>by
  cases c0<;>simp only [stripC] at h0<;>try (cases h0;done)
  clear hc0;rename_i id0 ops0 d0
  cases h0
  refine wp_region_list ?_
  have:=zek ops0.toList ops0.toList _ _ hk
  simpa using this
theorem zw4 (hE:E.Ok) {id:Nat} {ops:Array Oper} {ord:List (Nat × Bool)} {m:Nat} {W:List Nat} (ho:ordOf E.D id=some (ord,m,W)) {k:List It} {tm:PT} {mem:List MB} (h:Good E R ⟨.head ops.toList (len mem) W mem [] ord m::k,tm,mem⟩):Good E R ⟨.code (.region id ops true)::k,tm,mem⟩:=by
 intro ρ w a hρ hl H htm ha hit c0 h0 hchk
 cases c0<;>simp only [stripC] at h0<;>try (cases h0;done)
 rename_i id0 ops0 d0
 cases h0
 simp only [codeChk,ho,Bool.not_true,Bool.false_or,regChk,Bool.and_eq_true] at hchk;obtain ⟨⟨⟨⟨h1,h2⟩,h3⟩,h4⟩,h5⟩:=hchk
 have hO:HeadOk ops0 m:=⟨h1,Nat.le_of_ble_eq_true h2,by
  rw [Bool.or_eq_true,Bool.and_eq_true] at h3
  exact h3.imp Nat.eq_of_beq_eq_true fun h=>h⟩
 have hlen:ord.length=m:=Nat.eq_of_beq_eq_true h4
 have inv0:HeadInv .any ops0 m (Array.replicate ops0.size false) :=
  ⟨by simp,fun j oj _ hl=>(by rw [getD_replicate_false] at hl;cases hl),fun t _ ht=>getD_in (by simpa using ht) (getD_replicate_false _ _)⟩
 have hls:listedOf ops0.toList []=Array.replicate ops0.size false:=by simp [listedOf]
 have:=h ρ { w with drawn:=w.drawn+1 } a hρ hl H.drew htm ha (zbh ⟨zaq _,by simp [zaq],fun b hb=>by rw [zaq];exact H.ok b hb,fun _ _ _=>rfl⟩ (tl hit)) ops0.toList rfl (by simpa using hO) (by rw [hls];simpa using inv0) (by rw [hls];simpa using h5)
 refine wp_region_any hE.mixed ?_
 have h6:=ze3 _ _ _ _ this.2
 rw [hls,hlen] at h6;simp only [Array.toArray_toList,Array.length_toList] at h6
 rwa [show m+(ops0.size-m)=ops0.size by have:=hO.le;omega] at h6
theorem zgz (hE:E.Ok) {all r:List Oper} {o:Oper} {k:List It} {tm:PT} {mem:List MB} {v:SV} {x:Bool × Bool} (hw:wantE all tm o=some x) (hwx:wantB x=true) (hq:quietE std E.T o.op tm mem=some v)
 (h:Good E R ⟨.ops all r::k,putE tm o.dst v,mem⟩):Good E R ⟨.ops all (o::r)::k,tm,mem⟩:=by
 intro ρ w a hρ hl H htm ha hit
 obtain ⟨hrun,hvok⟩:=zfs hE.tab ha htm H.ok hq (w:=w) (fun _ _ h' bk _ _ hb=>H.blk h' bk hb) H.hdr
 have:=h ρ w _ hρ hl H (zck htm hvok) (zbz ha _ _) (zbh trivial (tl hit))
 simp only [cont,Exit.then,wpList];rw [if_pos ((zhr ha hw).trans hwx)];refine .inl ?_;unfold Oper.wp;rw [hrun];exact this
theorem zfx {all r:List Oper} {o:Oper} {k:List It} {tm:PT} {mem:List MB} {x:Bool × Bool} (hw:wantE all tm o=some x) (hwx:wantB x=false)
 (h:Good E R ⟨.ops all r::k,putE tm o.dst (.one (.val undef)),mem⟩):Good E R ⟨.ops all (o::r)::k,tm,mem⟩:=by
 intro ρ w a hρ hl H htm ha hit
 have:=h ρ w _ hρ hl H (zck htm trivial) (zbz ha _ _) (zbh trivial (tl hit))
 simp only [cont,Exit.then,wpList]
 rw [if_neg (by rw [zhr ha hw,hwx];simp)]
 exact this
theorem zz3 (hE:E.Ok) {all r:List Oper} {o:Oper} {k:List It} {tm:PT} {mem mem':List MB} {v:SV} {x:Bool × Bool} (hw:wantE all tm o=some x) (hwx:wantB x=true) (hq:effE std E.T 0 [] o.op tm mem=some (v,mem')) (hk:∀ it∈k,∀ (all:List Oper) (n0:Nat) (W:List Nat) (m0:List MB) (ls:List Nat) (ord:List (Nat × Bool)) (m:Nat),it≠.head all n0 W m0 ls ord m)
 (h:Good E R ⟨.ops all r::k,putE tm o.dst v,mem'⟩):Good E R ⟨.ops all (o::r)::k,tm,mem⟩:=by
 intro ρ w a hρ hl H htm ha hit;obtain ⟨ρ',w',x,hrun,hx,hρ',H',hvok,hle,_⟩:=zqk hE.tab H ha htm (Nat.zero_le _) hq
 have htm':TmOk mem'.length tm:=htm.mono hle
 have:=h ρ' w' _ (fun h p hp=>by rw [←hρ' h (Nat.lt_of_lt_of_le (List.getElem?_eq_some_iff.1 hp).1 hl)];exact hρ h p hp) (Nat.le_trans hl hle) H' (zck htm' hvok) (zbz (ha.ext htm hρ') _ _)
  (zbh trivial (zci (tl hit) hle fun it hi all n0 W m0 ls ord m he=>absurd he (hk it hi all n0 W m0 ls ord m)))
 simp only [cont,Exit.then] at this ⊢
 rw [←za4 hρ' fun it hi=>tl hit it hi] at this
 simp only [wpList];rw [if_pos ((zhr ha hw).trans hwx)];refine .inl ?_;unfold Oper.wp;rw [hrun]
 rcases hx with rfl|⟨rfl,hu⟩
 ·exact this
 ·rw [hu] at this;exact this
theorem zr9 {all r:List Oper} {o:Oper} {k:List It} {tm:PT} {mem:List MB} {f:FuncId} {args:List SV} {x:Bool × Bool} (hw:wantE all tm o=some x) (hwx:wantB x=true) (hq:callE tm o.op=some (f,args))
 (h:Good E R ⟨.call f args o.dst::.ops all r::k,tm,mem⟩):Good E R ⟨.ops all (o::r)::k,tm,mem⟩:=by
 intro ρ w a hρ hl H htm ha hit;obtain ⟨hgo,hcall⟩:=h ρ w a hρ hl H htm ha (zd9 (zlm htm hq) trivial (tl hit));simp only [cont,Exit.then,wpList];rw [if_pos ((zhr ha hw).trans hwx)];refine .inl ?_;unfold Oper.wp;rw [zll ha htm hq hgo w];refine hcall.mono ?_
 rintro e w' ⟨v,rfl,hk⟩
 exact hk
theorem zwt {all:List Oper} {n0:Nat} {W:List Nat} {m0:List MB} {ls:List Nat} {m:Nat} {k:List It} {tm:PT} {mem:List MB} (h:Good E R ⟨.ops all (dropN m all)::k,tm,mem⟩):Good E R ⟨.head all n0 W m0 ls [] m::k,tm,mem⟩:=by
 intro ρ w a hρ hl H htm ha hit l0 hl0 hO inv hc
 have:=h ρ w a hρ hl H htm ha (zbh trivial (tl hit))
 obtain ⟨a1,a2,a3,a4⟩:=hd hit
 refine ⟨fun h b hb hw=>H.blk h b ((a4 h (by rw [a1];exact (List.getElem?_eq_some_iff.1 hb).1) hw).trans hb),?_⟩
 simp only [ordChk] at hc
 have hsz:l0.toArray.size-m=(l0.drop m).length:=by simp
 rw [hsz] at hc
 have hsz':l0.length-m=(l0.drop m).length:=by simp
 rw [hsz'];rw [zf7] at this;subst hl0
 have hdr:(stripL l0).drop m=stripL (l0.drop m):=by rw [za9,za9,List.map_drop]
 rw [hdr] at this
 exact ⟨fun j hj=>seqB_ready hc j hj,wpAny_of_seq (l0.drop m) m _ _ _ (fun j=>by simp [List.getElem?_drop]) hc (zek l0 _ _ _ this)⟩
theorem zec {l0:List Oper} {ls:List Nat} {i:Nat} {sole:Bool} {r:List (Nat × Bool)} {m:Nat} (inv:HeadInv .any l0.toArray m (listedOf l0 ls)) (hil:i<l0.length) (hc:ordChk l0.toArray m (listedOf l0 ls) ((i,sole)::r)=true) :
 HeadInv .any l0.toArray m (listedOf l0 (i::ls))∧ordChk l0.toArray m (listedOf l0 (i::ls)) r=true∧i<m∧i∈Region.ready .any l0.toArray (listedOf l0 ls)∧(sole=true→Region.ready .any l0.toArray (listedOf l0 ls)=[i])∧(sole=false→Region.free .any l0.toArray (listedOf l0 ls) i=true):=by
 simp only [ordChk,Bool.or_eq_true,Bool.and_eq_true] at hc
 replace hc:=hc.resolve_left fun h=>by
  have h1:=Nat.le_of_ble_eq_true h.1.1
  have h2:=Nat.le_of_ble_eq_true h.1.2
  simp at h2;omega
 obtain ⟨⟨⟨h1,h2⟩,h3⟩,h4⟩:=hc.resolve_right fun h=>by
  have h1:=Nat.le_of_ble_eq_true h.1.1.1.1.1.1.1
  have h2:=Nat.le_of_ble_eq_true h.1.1.1.1.1.1.2
  simp at h2;omega
 have him:i<m:=Nat.le_of_ble_eq_true h1
 have hr:i∈Region.ready .any l0.toArray (listedOf l0 ls):=by simpa using h2
 refine ⟨inv.set hr him,h4,him,hr,fun hs=>?_,fun hs=>?_⟩
 ·rw [hs] at h3;simpa using h3
 ·rw [hs] at h3;simpa using h3
theorem za7 {ρ:Nat→Nat × Nat} {l0:List Oper} {tm:PT} {a:Act} (ha:Rel ρ tm a) {o0:Oper} {b:Bool × Bool} (h:wantE (stripL l0) tm (strip1 o0)=some b):Region.wanted o0 (yielded l0.toArray a.tmps)=wantB b:=by
 rw [←zg6];exact zhr ha h
theorem zo9 (hE:E.Ok) {all:List Oper} {n0:Nat} {W:List Nat} {m0:List MB} {ls:List Nat} {i:Nat} {sole:Bool} {r:List (Nat × Bool)} {m:Nat} {o:Oper} {k:List It} {tm:PT} {mem:List MB} {v:SV} (ho:nth all i=some o) {x:Bool × Bool} (hw:wantE all tm o=some x) (hwx:wantB x=true) (hq:quietE std E.T o.op tm mem=some v)
 (hs:(sole || loadsOld n0 W tm o.op)=true) (h:Good E R ⟨.head all n0 W m0 (i::ls) r m::k,putE tm o.dst v,mem⟩):Good E R ⟨.head all n0 W m0 ls ((i,sole)::r) m::k,tm,mem⟩:=by
 intro ρ w a hρ hl H htm ha hit l0 hl0 hO inv hc;obtain ⟨a1,a2,a3,a4⟩:=hd hit;subst hl0;rw [zak] at ho
 obtain ⟨inv',hc',him,hr,hsole,hfree⟩:=zec inv (by have:=(List.getElem?_eq_some_iff.1 ho).1;simpa [za9] using this) hc
 obtain ⟨o0,ho0,rfl⟩:=zby ho
 obtain ⟨hrun,hvok⟩:=zfs (o:=o0) hE.tab ha htm H.ok hq (w:=w) (fun _ _ h' bk _ _ hb=>H.blk h' bk hb) H.hdr
 obtain ⟨hS,hh⟩:=h ρ w _ hρ hl H (zck htm hvok) (zbz ha _ _) (zbh ⟨a1,a2,a3,a4⟩ (tl hit)) l0 rfl hO inv' hc'
 have ho':l0.toArray[i]?=some o0:=by simpa using ho0
 refine ⟨hS,?_⟩
 cases hb:sole with
 | true =>
   refine zfw (hsole hb) him ?_;unfold wpOp;simp only [ho'];rw [if_pos ((za7 ha hw).trans hwx)];refine .inl ?_;unfold Oper.wp;rw [hrun];exact ⟨hS,hh⟩
 | false =>
   rw [hb,Bool.false_or] at hs
   refine zgw ho' hO (fun c a w hp=>zg1 k c _ _ a w hp) him _ _ _ _ inv (Region.free_spec ho' (hfree hb)) hr (.inl ⟨(za7 ha hw).trans hwx,fun w' hS'=>?_⟩) hS hh
   refine (zfs (o:=o0) hE.tab ha htm H.ok hq (w:=w') (fun t x h' bk hop hx hb=>?_) H.hdr).1
   rw [show (strip1 o0).op=o0.op from rfl,hop] at hs
   simp only [loadsOld,hx] at hs;rw [Bool.and_eq_true] at hs
   have hlt:h'<n0:=Nat.le_of_ble_eq_true hs.1
   have hnw:inL W h'=false:=by simpa using hs.2
   exact hS' h' bk ((a4 h' hlt hnw).symm.trans hb) hnw
theorem zjk {all:List Oper} {n0:Nat} {W:List Nat} {m0:List MB} {ls:List Nat} {i:Nat} {sole:Bool} {r:List (Nat × Bool)} {m:Nat} {o:Oper} {k:List It} {tm:PT} {mem:List MB} (ho:nth all i=some o) {x:Bool × Bool} (hw:wantE all tm o=some x) (hwx:wantB x=false)
 (h:Good E R ⟨.head all n0 W m0 (i::ls) r m::k,putE tm o.dst (.one (.val undef)),mem⟩):Good E R ⟨.head all n0 W m0 ls ((i,sole)::r) m::k,tm,mem⟩:=by
 intro ρ w a hρ hl H htm ha hit l0 hl0 hO inv hc;obtain ⟨a1,a2,a3,a4⟩:=hd hit;subst hl0;rw [zak] at ho
 obtain ⟨inv',hc',him,hr,hsole,hfree⟩:=zec inv (by have:=(List.getElem?_eq_some_iff.1 ho).1;simpa [za9] using this) hc
 obtain ⟨o0,ho0,rfl⟩:=zby ho;obtain ⟨hS,hh⟩:=h ρ w _ hρ hl H (zck htm trivial) (zbz ha _ _) (zbh ⟨a1,a2,a3,a4⟩ (tl hit)) l0 rfl hO inv' hc'
 have ho':l0.toArray[i]?=some o0:=by simpa using ho0
 refine ⟨hS,?_⟩
 cases hb:sole with
 | true =>
   refine zfw (hsole hb) him ?_;unfold wpOp;simp only [ho']
   rw [if_neg (by rw [za7 ha hw,hwx];simp)]
   exact ⟨hS,hh⟩
 | false=>exact zgw ho' hO (fun c a w hp=>zg1 k c _ _ a w hp) him _ _ _ _ inv (Region.free_spec ho' (hfree hb)) hr (.inr ⟨(za7 ha hw).trans hwx,rfl⟩) hS hh
theorem zw1 (hE:E.Ok) {all:List Oper} {n0:Nat} {W:List Nat} {m0:List MB} {ls:List Nat} {i:Nat} {r:List (Nat × Bool)} {m:Nat} {o:Oper} {k:List It} {tm:PT} {mem mem':List MB} {v:SV} (ho:nth all i=some o) {x:Bool × Bool} (hw:wantE all tm o=some x) (hwx:wantB x=true) (hq:effE std E.T n0 W o.op tm mem=some (v,mem'))
 (hk:∀ it∈k,∀ (all:List Oper) (n0:Nat) (W:List Nat) (m0:List MB) (ls:List Nat) (ord:List (Nat × Bool)) (m:Nat),it≠.head all n0 W m0 ls ord m)
 (h:Good E R ⟨.head all n0 W m0 (i::ls) r m::k,putE tm o.dst v,mem'⟩):Good E R ⟨.head all n0 W m0 ls ((i,true)::r) m::k,tm,mem⟩:=by
 intro ρ w a hρ hl H htm ha hit l0 hl0 hO inv hc;obtain ⟨a1,a2,a3,a4⟩:=hd hit;subst hl0;rw [zak] at ho
 obtain ⟨inv',hc',him,hr,hsole,hfree⟩:=zec inv (by have:=(List.getElem?_eq_some_iff.1 ho).1;simpa [za9] using this) hc
 obtain ⟨o0,ho0,rfl⟩:=zby ho;obtain ⟨ρ',w',x,hrun,hx,hρ',H',hvok,hle,hn0⟩:=zqk (o:=o0) hE.tab H ha htm a2 hq
 have htm':TmOk mem'.length tm:=htm.mono hle
 obtain ⟨hS,hh⟩:=h ρ' w' _ (fun h p hp=>by rw [←hρ' h (Nat.lt_of_lt_of_le (List.getElem?_eq_some_iff.1 hp).1 hl)];exact hρ h p hp) (Nat.le_trans hl hle) H' (zck htm' hvok) (zbz (ha.ext htm hρ') _ _)
  (zbh ⟨a1,Nat.le_trans a2 hle,a3,fun h hh hw=>(hn0 h hh hw).trans (a4 h hh hw)⟩ (zci (tl hit) hle fun it hi all n0 W m0 ls ord m he=>absurd he (hk it hi all n0 W m0 ls ord m))) l0 rfl hO inv' hc'
 have hSS:S0 ρ' W m0=S0 ρ W m0:=(zgh (fun h hh=>hρ' h (by omega)) (by rw [a1] at a3;exact a3)).symm
 rw [hSS,←za4 hρ' fun it hi=>tl hit it hi] at hh
 rw [hSS] at hS
 have ho':l0.toArray[i]?=some o0:=by simpa using ho0
 have hS0:S0 ρ W m0 w:=fun h b hb hw=>H.blk h b ((a4 h (by rw [a1];exact (List.getElem?_eq_some_iff.1 hb).1) hw).trans hb)
 refine ⟨hS0,zfw (hsole rfl) him ?_⟩;unfold wpOp;simp only [ho'];rw [if_pos ((za7 ha hw).trans hwx)];refine .inl ?_;unfold Oper.wp;rw [hrun]
 rcases hx with rfl|⟨rfl,hu⟩
 ·exact ⟨hS,hh⟩
 ·rw [hu] at hh;exact ⟨hS,hh⟩
theorem zr8 {all:List Oper} {n0:Nat} {W:List Nat} {m0:List MB} {ls:List Nat} {i:Nat} {r:List (Nat × Bool)} {m:Nat} {o:Oper} {k:List It} {tm:PT} {mem:List MB} {f:FuncId} {args:List SV} (ho:nth all i=some o) {x:Bool × Bool} (hw:wantE all tm o=some x) (hwx:wantB x=true) (hq:callE tm o.op=some (f,args))
 (h:Good E R ⟨.call f args o.dst::.head all n0 W m0 (i::ls) r m::k,tm,mem⟩):Good E R ⟨.head all n0 W m0 ls ((i,true)::r) m::k,tm,mem⟩:=by
 intro ρ w a hρ hl H htm ha hit l0 hl0 hO inv hc;obtain ⟨a1,a2,a3,a4⟩:=hd hit;subst hl0;rw [zak] at ho
 obtain ⟨inv',hc',him,hr,hsole,hfree⟩:=zec inv (by have:=(List.getElem?_eq_some_iff.1 ho).1;simpa [za9] using this) hc
 obtain ⟨o0,ho0,rfl⟩:=zby ho;obtain ⟨hgo,hcall⟩:=h ρ w a hρ hl H htm ha (zd9 (zlm htm hq) ⟨a1,a2,a3,a4⟩ (tl hit))
 have ho':l0.toArray[i]?=some o0:=by simpa using ho0
 have hS0:S0 ρ W m0 w:=fun h b hb hw=>H.blk h b ((a4 h (by rw [a1];exact (List.getElem?_eq_some_iff.1 hb).1) hw).trans hb)
 refine ⟨hS0,zfw (hsole rfl) him ?_⟩;unfold wpOp;simp only [ho'];rw [if_pos ((za7 ha hw).trans hwx)];refine .inl ?_;unfold Oper.wp;rw [zll (o:=o0) ha htm hq hgo w];refine hcall.mono ?_
 rintro e w' ⟨v,rfl,hk⟩
 exact hk l0 rfl hO inv' hc'
theorem zcu:∀ {k:List It},plainK k=true→∀ it∈k,∀ (all:List Oper) (n0:Nat) (W:List Nat) (m0:List MB) (ls:List Nat) (ord:List (Nat × Bool)) (m:Nat),it≠.head all n0 W m0 ls ord m
 | [],_,it,hit,_,_,_,_,_,_,_=>by cases hit
 | .code c :: k, h, it, hit, all, n0, W, m0, ls, ord, m => by
   rcases List.mem_cons.1 hit with rfl|hit
   ·simp
   ·exact zcu (k:=k) h it hit all n0 W m0 ls ord m
 | .blk c :: k, h, it, hit, all, n0, W, m0, ls, ord, m => by
   rcases List.mem_cons.1 hit with rfl|hit
   ·simp
   ·exact zcu (k:=k) h it hit all n0 W m0 ls ord m
 | .again c :: k, h, it, hit, all, n0, W, m0, ls, ord, m => by
   rcases List.mem_cons.1 hit with rfl|hit
   ·simp
   ·exact zcu (k:=k) h it hit all n0 W m0 ls ord m
 | .ops _ _::_,h,_,_,_,_,_,_,_,_,_=>by simp [plainK] at h
 | .head _ _ _ _ _ _ _::_,h,_,_,_,_,_,_,_,_,_=>by simp [plainK] at h
 | .call _ _ _::_,h,_,_,_,_,_,_,_,_,_=>by simp [plainK] at h
 | .ret::_,h,_,_,_,_,_,_,_,_,_=>by simp [plainK] at h
theorem zb8 (hE:E.Ok) (i j:Nat) {q:Nat} {all:List Oper} {n0:Nat} {W:List Nat} {m0:List MB} {ls:List Nat} {r:List (Nat × Bool)} {m:Nat} {o oj:Oper} {k:List It} {tm:PT} {mem mem':List MB} {f:FuncId} {args:List SV} {v:SV} (hsz:Nat.ble (len all) 1000=true) (hqi:q % 1000=i) (hqj':q / 1000-1=j) (hq1:Nat.ble 1000 q=true)
 (ho:nth all i=some o) {x:Bool × Bool} (hw:wantE all tm o=some x) (hwx:wantB x=true) (hq:callE tm o.op=some (f,args)) (hoj:nth all j=some oj) {xj:Bool × Bool} (hwj:wantE all tm oj=some xj) (hwxj:wantB xj=true) (hqj:effE std E.T n0 W oj.op tm mem=some (v,mem')) (hk:plainK k=true)
 (h1:Good E R ⟨.call f args o.dst::.head all n0 W m0 (i::ls) r m::k,tm,mem⟩) (h2:Good E R ⟨.head all n0 W m0 (j::ls) ((i,true)::unfork j r) m::k,putE tm oj.dst v,mem'⟩):Good E R ⟨.head all n0 W m0 ls ((q,true)::r) m::k,tm,mem⟩:=by
 intro ρ w a hρ hl H htm ha hit l0 hl0 hO inv hc;obtain ⟨a1,a2,a3,a4⟩:=hd hit;subst hl0;rw [zak] at ho hoj;obtain ⟨o0,ho0,rfl⟩:=zby ho;obtain ⟨oj0,hoj0,rfl⟩:=zby hoj
 have hq2:=Nat.le_of_ble_eq_true hq1
 simp only [ordChk,Bool.or_eq_true,Bool.and_eq_true] at hc
 replace hc:=hc.resolve_left fun h=>by
  have h3:=Nat.le_of_ble_eq_true h.1.1
  have h4:=(List.getElem?_eq_some_iff.1 hoj0).1
  have h5:=Nat.le_of_ble_eq_true hsz
  rw [zaq,za9,List.length_map] at h5;omega
 have hc:=hc.resolve_left fun h=>by
  have h3:q∈Region.ready .any l0.toArray (listedOf l0 ls):=by simpa using h.1.1.2
  obtain ⟨_,ox,hox,_⟩:=mem_ready.1 h3
  have h4:=(Array.getElem?_eq_some_iff.1 hox).1
  have h5:=Nat.le_of_ble_eq_true hsz
  rw [zaq,za9,List.length_map] at h5;simp at h4;omega
 rw [hqi,hqj'] at hc
 have him:=hc.1.1.1.1.1.2
 have hjm:=hc.1.1.1.1.2
 have hrd:=hc.1.1.1.2
 have hlen:=hc.1.1.2
 have hc1:=hc.1.2
 have hc2:=hc.2
 have him':i<m:=Nat.le_of_ble_eq_true him
 have hjm':j<m:=Nat.le_of_ble_eq_true hjm
 have hlen':=Nat.eq_of_beq_eq_true hlen
 have hrd':Region.ready .any l0.toArray (listedOf l0 ls)=[i,j]∨Region.ready .any l0.toArray (listedOf l0 ls)=[j,i]:=hrd.imp of_decide_eq_true of_decide_eq_true
 have hri:i∈Region.ready .any l0.toArray (listedOf l0 ls):=by rcases hrd' with h|h<;>rw [h]<;>simp
 have hrj:j∈Region.ready .any l0.toArray (listedOf l0 ls):=by rcases hrd' with h|h<;>rw [h]<;>simp
 have hS0:S0 ρ W m0 w:=fun h b hb hw=>H.blk h b ((a4 h (by rw [a1];exact (List.getElem?_eq_some_iff.1 hb).1) hw).trans hb)
 refine ⟨hS0,zzu (i:=i) (j:=j) (fun x hx=>by rcases hrd' with h|h<;>rw [h] at hx<;>simp at hx<;>omega) (by rcases hrd' with h|h<;>rw [h]<;>simp) him' hjm' ?_ ?_⟩
 ·obtain ⟨hgo,hcall⟩:=h1 ρ w a hρ hl H htm ha (zd9 (zlm htm hq) ⟨a1,a2,a3,a4⟩ (tl hit))
  have ho':l0.toArray[i]?=some o0:=by simpa using ho0
  unfold wpOp;simp only [ho'];rw [if_pos ((za7 ha hw).trans hwx)];refine .inl ?_;unfold Oper.wp;rw [zll (o:=o0) ha htm hq hgo w];refine hcall.mono ?_
  rintro e w' ⟨v,rfl,hk⟩
  exact hk l0 rfl hO (inv.set hri him') hc1
 ·obtain ⟨ρ',w',x,hrun,hx,hρ',H',hvok,hle,hn0⟩:=zqk (o:=oj0) hE.tab H ha htm a2 hqj
  have htm':TmOk mem'.length tm:=htm.mono hle
  obtain ⟨hS,hh⟩:=h2 ρ' w' _ (fun h p hp=>by rw [←hρ' h (Nat.lt_of_lt_of_le (List.getElem?_eq_some_iff.1 hp).1 hl)];exact hρ h p hp) (Nat.le_trans hl hle) H' (zck htm' hvok) (zbz (ha.ext htm hρ') _ _)
   (zbh ⟨a1,Nat.le_trans a2 hle,a3,fun h hh hw=>(hn0 h hh hw).trans (a4 h hh hw)⟩ (zci (tl hit) hle fun it hi all n0 W m0 ls ord m he=>absurd he (zcu hk it hi all n0 W m0 ls ord m))) l0 rfl hO (inv.set hrj hjm') (zii hc2)
  have hSS:S0 ρ' W m0=S0 ρ W m0:=(zgh (fun h hh=>hρ' h (by omega)) (by rw [a1] at a3;exact a3)).symm
  rw [hSS,←za4 hρ' fun it hi=>tl hit it hi] at hh
  rw [hSS] at hS;rw [List.length_cons,hlen'] at hh
  have ho':l0.toArray[j]?=some oj0:=by simpa using hoj0
  unfold wpOp;simp only [ho'];rw [if_pos ((za7 ha hwj).trans hwxj)];refine .inl ?_;unfold Oper.wp;rw [hrun]
  rcases hx with rfl|⟨rfl,hu⟩
  ·exact ⟨hS,hh⟩
  ·rw [hu] at hh;exact ⟨hS,hh⟩
theorem zj8 (hE:E.Ok) {c:St→St} (ih:∀ st,Good E R (c st)→Good E R st) {tm:PT} {mem:List MB} {all:List Oper} {o:Oper} {r:List Oper} {k:List It} {x:Bool × Bool} (hw:wantE all tm o=some x) {u:Bool} (hx:wantB x=u)
 (h:Good E R (doOps std E.T c ⟨.ops all (o::r)::k,tm,mem⟩ all o r k u)):Good E R ⟨.ops all (o::r)::k,tm,mem⟩:=by
 cases u with
 | false=>exact zfx hw hx (ih _ h)
 | true =>
   simp only [doOps] at h
   split at h
   ·rename_i v hq
    exact zgz hE hw hx hq (ih _ h)
   ·split at h
    ·rename_i v mem' hq
     cases hp:plainK k with
     | true =>
       rw [hp] at h;exact zz3 hE hw hx hq (zcu hp) (ih _ h)
     | false=>rw [hp] at h;exact h
    ·split at h
     ·rename_i f args hq
      exact zr9 hw hx hq h
     ·exact h
theorem zi1 (hE:E.Ok) {c:St→St} (ih:∀ st,Good E R (c st)→Good E R st) {tm:PT} {mem:List MB} {all:List Oper} {n0:Nat} {W:List Nat} {m0:List MB} {ls:List Nat} {i:Nat} {sole:Bool} {o:Oper} {r:List (Nat × Bool)} {m:Nat} {k:List It} (ho:nth all i=some o) {x:Bool × Bool} (hw:wantE all tm o=some x) {u:Bool} (hx:wantB x=u)
 (h:Good E R (doHead std E.T c ⟨.head all n0 W m0 ls ((i,sole)::r) m::k,tm,mem⟩ all n0 W m0 ls i sole o r m k u)):Good E R ⟨.head all n0 W m0 ls ((i,sole)::r) m::k,tm,mem⟩:=by
 cases u with
 | false=>exact zjk ho hw hx (ih _ h)
 | true =>
   simp only [doHead] at h
   split at h
   ·rename_i v hq
    cases hs:(sole || loadsOld n0 W tm o.op) with
    | true =>
      rw [hs] at h;exact zo9 hE ho hw hx hq hs (ih _ h)
    | false=>rw [hs] at h;exact h
   ·split at h
    ·rename_i v mem' hq
     cases hs:(sole && plainK k) with
     | true =>
       rw [hs] at h;rw [Bool.and_eq_true] at hs;obtain ⟨rfl,hp⟩:=hs;exact zw1 hE ho hw hx hq (zcu hp) (ih _ h)
     | false=>rw [hs] at h;exact h
    ·split at h
     ·rename_i f args hq
      cases hs:sole with
      | true =>
        rw [hs] at h;exact zr8 ho hw hx hq h
      | false=>rw [hs] at h;rw [hs] at *;exact h
     ·exact h
def subO:Option SV→Option SV→Prop
 | _,none=>True
 | some _,some .any=>True
 | v,some u=>v=some u
def subP:PT→PT→Prop
 | _,.nil=>True
 | .node v l r,.node v' l' r'=>subO v v'∧subP l l'∧subP r r'
 | .nil,.node _ _ _=>False
theorem zy9 {v:Option SV} {u:SV} (h:subO v (some u)):∃ v',v=some v'∧(u≠.any→v'=u):=by
 cases v with
 | none=>cases u<;>simp [subO] at h
 | some v' =>
   refine ⟨v',rfl,fun hne=>?_⟩
   cases u with
   | any=>exact absurd rfl hne
   | one x=>simpa [subO] using h
   | agg l=>simpa [subO] using h
   | tup l=>simpa [subO] using h
theorem zfp:∀ {p q:PT},subP p q→∀ {t:Nat} {u:SV},tget q t=some u→∃ v,tget p t=some v∧(u≠.any→v=u)
 | _,.nil,_,t,u,hu=>by simp [tget] at hu
 | .nil,.node _ _ _,h,_,_,_=>by simp [subP] at h
 | .node v l r, .node v' l' r', h, t, u, hu => by
   simp only [subP] at h
   cases t with
   | zero =>
     simp only [tget] at hu ⊢;subst hu;exact zy9 h.1
   | succ t =>
     simp only [tget] at hu ⊢
     cases hb:Nat.beq (t % 2) 0<;>rw [hb] at hu
     ·exact zfp h.2.2 hu
     ·exact zfp h.2.1 hu
theorem zhg {ρ:Nat→Nat × Nat} {p q:PT} {a:Act} (h:subP p q) (ha:Rel ρ p a):Rel ρ q a :=
 ⟨ha.defers,fun t u hu=>by
  obtain ⟨v,hv,hvu⟩:=zfp h hu;obtain ⟨x,hx,hxv⟩:=ha.get t v hv
  refine ⟨x,hx,fun hne=>?_⟩
  have:=hvu hne
  subst this;exact hxv hne⟩
theorem qbp {n:Nat} {p q:PT} (h:subP p q) (hp:TmOk n p):TmOk n q:=fun t u hu=>by
 obtain ⟨v,hv,hvu⟩:=zfp h hu
 by_cases hne:u=.any
 ·subst hne;trivial
 ·rw [←hvu hne];exact hp t v hv
theorem zw7 {ρ:Nat→Nat × Nat} {a:Act}:∀ (l:List Nat) {tm:PT},Rel ρ tm a→Rel ρ (fgt l tm) a
 | [],_,h=>h
 | i :: l, tm, h => by
   refine zw7 l ⟨h.defers,fun t v hv=>?_⟩
   rcases za5 tm i .any t v hv with ⟨rfl,rfl,v',hv'⟩|⟨_,h2⟩
   ·obtain ⟨u,hu,_⟩:=h.get t v' hv'
    exact ⟨u,hu,fun e=>absurd rfl e⟩
   ·exact h.get t v h2
theorem zqh {n:Nat}:∀ (l:List Nat) {tm:PT},TmOk n tm→TmOk n (fgt l tm)
 | [],_,h=>h
 | i::l,_,h=>zqh l (zck (d:=some i) (v:=.any) h trivial)
theorem zdy:∀ (p:PT) (i:Nat) (x:SV) (j:Nat),j≠i→tget (tset p i x) j=tget p j
 | .nil,_,_,_,_=>rfl
 | .node v l r, 0, x, j, h => by
   cases j with
   | zero=>exact absurd rfl h
   | succ j=>cases v<;>rfl
 | .node v l r, i + 1, x, j, h => by
   simp only [tset]
   cases hb:Nat.beq (i % 2) 0 with
   | true =>
     simp only [cond_true]
     cases j with
     | zero=>rfl
     | succ j =>
       simp only [tget]
       cases hj:Nat.beq (j % 2) 0 with
       | true =>
         simp only [cond_true]
         have h1:=Nat.eq_of_beq_eq_true hb
         have h2:=Nat.eq_of_beq_eq_true hj
         exact zdy l (i / 2) x (j / 2) (by omega)
       | false=>rfl
   | false =>
     simp only [cond_false]
     cases j with
     | zero=>rfl
     | succ j =>
       simp only [tget]
       cases hj:Nat.beq (j % 2) 0 with
       | true=>rfl
       | false =>
         simp only [cond_false]
         have h1:i % 2≠0:=fun e=>by rw [e] at hb;cases hb
         have h2:j % 2≠0:=fun e=>by rw [e] at hj;cases hj
         exact zdy r (i / 2) x (j / 2) (by omega)
theorem zms (v:Option SV):subO v v:=by
 cases v with
 | none=>trivial
 | some v=>cases v<;>first|trivial|rfl
theorem zce:∀ p:PT,subP p p
 | .nil=>trivial
 | .node v l r=>⟨zms v,zce l,zce r⟩
theorem zvk {u:Option SV} (h:subO none u):u=none:=by
 cases u with
 | none=>rfl
 | some u=>cases u<;>simp [subO] at h
theorem zfo {x y:SV} (hxy:y=x∨y=.any):∀ {p q:PT} (i:Nat),subP p q→subP (tset p i x) (tset q i y)
 | _,.nil,_,_=>by simp [tset,subP]
 | .nil,.node _ _ _,_,h=>h.elim
 | .node v l r, .node v' l' r', 0, h => by
   cases v' with
   | none=>cases v<;>exact ⟨trivial,h.2.1,h.2.2⟩
   | some u' =>
     cases v with
     | none=>have:=zvk h.1;cases this
     | some u =>
       refine ⟨?_,h.2.1,h.2.2⟩
       rcases hxy with rfl|rfl
       ·exact zms _
       ·trivial
 | .node v l r, .node v' l' r', i + 1, h => by
   simp only [tset]
   cases Nat.beq (i % 2) 0 with
   | true=>exact ⟨h.1,zfo hxy (i / 2) h.2.1,h.2.2⟩
   | false=>exact ⟨h.1,h.2.1,zfo hxy (i / 2) h.2.2⟩
theorem zzv {k:List It} {p q:PT} {mem:List MB} (hs:subP p q) (h:Good E R ⟨k,q,mem⟩):Good E R ⟨k,p,mem⟩:=fun ρ w a hρ hl H htm ha hit=>h ρ w a hρ hl H (qbp hs htm) (zhg hs ha) hit
theorem qa2 {p q:PT} (hs:subP p q) {x:Operand} {v:SV} (h:ev q x=some v):ev p x=some v:=by
 cases x with
 | tmp t =>
   simp only [ev] at h ⊢
   cases ht:tget q t with
   | none=>rw [ht] at h;cases h
   | some u =>
     rw [ht] at h;obtain ⟨u',h1,h2⟩:=zfp hs ht
     cases u<;>first
      | (cases h;done)
      | (rw [h1,h2 (by intro e;cases e)];exact h)
 | _=>exact h
theorem zjw {j:Nat} {want:Bool}:∀ {l gs rest:List Oper},takeG j want l=(gs,rest)→l=gs++rest∧∀ o∈gs,o.guard=some (j,want)
 | [],gs,rest,h=>by cases h;exact ⟨rfl,fun o ho=>by cases ho⟩
 | o :: l, gs, rest, h => by
   simp only [takeG] at h
   split at h
   ·rename_i i w hg
    cases hc:(Nat.beq i j && beqW want w) with
    | true =>
      rw [hc] at h;simp only [cond_true] at h;obtain ⟨a,b,hab⟩:∃ a b,takeG j want l=(a,b):=⟨_,_,rfl⟩;rw [hab] at h
      cases h
      obtain ⟨h1,h2⟩:=zjw hab;rw [Bool.and_eq_true] at hc
      have hij:=Nat.eq_of_beq_eq_true hc.1
      have hww:w=want:=by cases want<;>cases w<;>first|rfl|(have:=hc.2;cases this)
      refine ⟨by rw [h1];rfl,fun o' ho'=>?_⟩
      rcases List.mem_cons.1 ho' with rfl|ho'
      ·rw [hg,hij,hww]
      ·exact h2 o' ho'
    | false =>
      rw [hc] at h
      cases h
      exact ⟨rfl,fun o ho=>by cases ho⟩
   ·cases h
    exact ⟨rfl,fun o ho=>by cases ho⟩
theorem zkf {o:Oper} {l:List Oper} {d:Nat} (h:inL (dstsO (o::l)) d=false):o.dst≠some d∧inL (dstsO l) d=false:=by
 unfold dstsO at h
 split at h
 ·rename_i d' hd
  simp only [inL] at h
  cases hb:Nat.beq d' d with
  | true=>rw [hb] at h;cases h
  | false =>
    rw [hb] at h
    refine ⟨fun e=>?_,h⟩
    rw [hd] at e
    cases e
    rw [Nat.beq_refl] at hb;cases hb
 ·rename_i hd
  exact ⟨by rw [hd];simp,h⟩
theorem zka {tm:PT} {o:Option Tmp} {d:Nat} {v:SV} (h:o≠some d):tget (putE tm o v) d=tget tm d:=by
 cases o with
 | none=>rfl
 | some i=>exact zdy tm i v d fun e=>h (by rw [e])
theorem zgx (hE:E.Ok) {all:List Oper} {j d:Nat} {g:Oper} {want:Bool} {rest:List Oper} {k:List It} {mem:List MB} (hj:nth all j=some g) (hd:g.dst=some d):∀ (gs:List Oper) (tm tmG:PT),(∀ o∈gs,o.guard=some (j,want))→tget tm d=some (.one (.val (.bool want)))→inL (dstsO gs) d=false→quietsE std E.T gs tm mem=some tmG →
 (tget tmG d=some (.one (.val (.bool want)))∧∀ q,subP tm q→subP tmG (fgt (dstsO gs) q))∧(Good E R ⟨.ops all rest::k,tmG,mem⟩→Good E R ⟨.ops all (gs++rest)::k,tm,mem⟩)
 | [], tm, tmG, _, ht, _, hq => by
   simp only [quietsE,Option.some.injEq] at hq;subst hq
   exact ⟨⟨ht,fun q h=>h⟩,fun h=>h⟩
 | o :: gs, tm, tmG, hg, ht, hn, hq => by
   simp only [quietsE] at hq
   split at hq
   ·rename_i v hv
    obtain ⟨h1,h2⟩:=zkf hn
    obtain ⟨⟨h3,h4⟩,h5⟩:=zgx hE (rest:=rest) (k:=k) hj hd gs _ _ (fun o' ho'=>hg o' (by simp [ho'])) ((zka h1).trans ht) h2 hq
    refine ⟨⟨h3,fun q hs=>?_⟩,fun h=>?_⟩
    ·unfold dstsO
     cases hod:o.dst with
     | none=>exact h4 q (by rw [hod];exact hs)
     | some i=>exact h4 (tset q i .any) (by rw [hod];exact zfo (.inr rfl) i hs)
    ·refine zgz hE (x:=(want,want)) ?_ (by cases want<;>rfl) hv (h5 h)
     simp only [wantE,hg o (by simp),hj,hd,ht]
   ·cases hq
def putsU:List Oper→PT→PT
 | [],tm=>tm
 | o::l,tm=>putsU l (putE tm o.dst (.one (.val undef)))
theorem zed {all:List Oper} {j d:Nat} {g:Oper} {want:Bool} {rest:List Oper} {k:List It} {mem:List MB} (hj:nth all j=some g) (hd:g.dst=some d):∀ (gs:List Oper) (tm:PT),(∀ o∈gs,o.guard=some (j,want))→tget tm d=some (.one (.val (.bool (!want))))→inL (dstsO gs) d=false →
 (tget (putsU gs tm) d=some (.one (.val (.bool (!want))))∧∀ q,subP tm q→subP (putsU gs tm) (fgt (dstsO gs) q))∧(Good E R ⟨.ops all rest::k,putsU gs tm,mem⟩→Good E R ⟨.ops all (gs++rest)::k,tm,mem⟩)
 | [],tm,_,ht,_=>⟨⟨ht,fun q h=>h⟩,fun h=>h⟩
 | o :: gs, tm, hg, ht, hn => by
   obtain ⟨h1,h2⟩:=zkf hn
   obtain ⟨⟨h3,h4⟩,h5⟩:=zed (rest:=rest) (k:=k) (mem:=mem) hj hd gs (putE tm o.dst (.one (.val undef))) (fun o' ho'=>hg o' (by simp [ho'])) ((zka h1).trans ht) h2
   refine ⟨⟨h3,fun q hs=>?_⟩,fun h=>?_⟩
   ·unfold dstsO putsU
    cases hod:o.dst with
    | none=>rw [hod] at h4;exact h4 q hs
    | some i=>rw [hod] at h4;exact h4 (tset q i .any) (zfo (.inr rfl) i hs)
   ·refine zfx (x:=(!want,want)) ?_ (by cases want<;>rfl) (h5 h)
    simp only [wantE,hg o (by simp),hj,hd,ht]
theorem zz1 (hE:E.Ok) {all l r':List Oper} {k:List It} {tm tm':PT} {mem:List MB} (hg:grpE std E.T E.D all tm mem l=some (tm',r')) (h:Good E R ⟨.ops all r'::k,tm',mem⟩):Good E R ⟨.ops all l::k,tm,mem⟩:=by
 unfold grpE at hg
 split at hg
 ·cases hg
 ·split at hg
  ·cases hg
  ·rename_i o l0
   split at hg
   ·cases hg
   ·rename_i j want hgd
    split at hg
    ·cases hg
    ·rename_i g hj
     split at hg
     ·cases hg
     ·rename_i d hd
      split at hg
      ·rename_i b hb
       split at hg
       ·rename_i gs pk r htk
        obtain ⟨hl,hgs⟩:=zjw htk
        split at hg
        ·rename_i c x y pd hpg hpo hpd
         replace hg:=zai hg;obtain ⟨hc,hg⟩:=hg;rw [Bool.and_eq_true] at hc;replace hc:=hc.2;rw [Bool.and_eq_true] at hc;obtain rfl:=Nat.eq_of_beq_eq_true hc.1
         have hn:inL (dstsO gs) c=false:=by
          cases hi:inL (dstsO gs) c with
          | false=>rfl
          | true=>rw [hi] at hc;exact absurd hc.2 (by simp [notb])
         split at hg
         ·rename_i tmG hqs
          rw [hl]
          have fin:∀ (tmX:PT) (t:Bool) (v w:Bool),tget tmX c=some (.one (.val (.bool t)))→subP tmX (fgt (dstsO gs) tm)→(t=true→ev tmX x=some (.one (.val (.bool v))))→(t=false→ev tmX y=some (.one (.val (.bool w))))→Good E R ⟨.ops all r::k,putE (fgt (dstsO gs) tm) (some pd) (.one (.val (.bool (std.sel t v w)))),mem⟩→Good E R ⟨.ops all (pk::r)::k,tmX,mem⟩:=fun tmX t v w h1 h2 h3 h4 hG=>by
           have hcc:ev tmX (.tmp c)=some (.one (.val (.bool t))):=by simp only [ev,h1]
           refine zgz hE (x:=(true,true)) (by simp only [wantE,hpg]) rfl (v:=.one (.val (.bool (std.sel t v w)))) ?_ ?_
           ·rw [hpo]
            cases t with
            | true=>simp only [quietE,hcc,h3 rfl];rfl
            | false=>simp only [quietE,hcc,h4 rfl];rfl
           ·rw [hpd]
            exact zzv (zfo (.inl rfl) pd h2) hG
          cases want with
          | true =>
            simp only at hg
            split at hg
            ·rename_i v w hx hy
             cases hg
             cases b with
             | true =>
               obtain ⟨⟨h1,h2⟩,h3⟩:=zgx hE (rest:=pk::_) (k:=k) (R:=R) hj hd gs tm tmG hgs hb hn hqs
               exact h3 (fin tmG true v w h1 (h2 _ (zce tm)) (fun _=>hx) (fun e=>by cases e) h)
             | false =>
               obtain ⟨⟨h1,h2⟩,h3⟩:=zed (rest:=pk::_) (k:=k) (mem:=mem) (E:=E) (R:=R) hj hd gs tm hgs hb hn
               exact h3 (fin _ false v w h1 (h2 _ (zce tm)) (fun e=>by cases e) (fun _=>qa2 (h2 _ (zce tm)) hy) h)
            ·cases hg
          | false =>
            simp only at hg
            split at hg
            ·rename_i v w hx hy
             cases hg
             cases b with
             | false =>
               obtain ⟨⟨h1,h2⟩,h3⟩:=zgx hE (rest:=pk::_) (k:=k) (R:=R) hj hd gs tm tmG hgs hb hn hqs
               exact h3 (fin tmG false v w h1 (h2 _ (zce tm)) (fun e=>by cases e) (fun _=>hy) h)
             | true =>
               obtain ⟨⟨h1,h2⟩,h3⟩:=zed (rest:=pk::_) (k:=k) (mem:=mem) (E:=E) (R:=R) hj hd gs tm hgs hb hn
               exact h3 (fin _ true v w h1 (h2 _ (zce tm)) (fun _=>qa2 (h2 _ (zce tm)) hx) (fun e=>by cases e) h)
            ·cases hg
         ·cases hg
        ·cases hg
       ·cases hg
      ·cases hg
theorem zla (hE:E.Ok):∀ (n:Nat) (st:St),Good E R (run std E.T E.D n st)→Good E R st
 | 0,_,h=>h
 | n + 1, ⟨items, tm, mem⟩, h => by
   have ih:=zla hE n
   cases items with
   | nil=>exact h
   | cons it k =>
     cases it with
     | code c =>
       cases c with
       | skip=>exact zwu (ih _ h)
       | seq a b=>exact zzw (ih _ h)
       | region id ops draw =>
         cases draw with
         | false=>exact zo8 (ih _ h)
         | true =>
           simp only [run] at h
           split at h
           ·rename_i ord m W ho
            exact zw4 hE ho (ih _ h)
           ·exact h
       | cond x a b =>
         simp only [run] at h
         split at h
         ·rename_i t hx
          cases t
          ·exact znf hx (by simpa using ih _ h)
          ·exact znf hx (by simpa using ih _ h)
         ·exact h
       | block id b=>exact zsa (ih _ h)
       | exit id =>
         simp only [run] at h
         split at h
         ·rename_i k' hk
          exact zw3 hk (ih _ h)
         ·exact h
       | ret=>exact zzx h
       | _=>exact h
     | blk id=>exact zz4 (ih _ h)
     | ops all rest =>
       cases rest with
       | nil=>exact zzy (ih _ h)
       | cons o r =>
         simp only [run] at h
         split at h
         ·rename_i tm' r' hgr
          exact zz1 hE hgr (ih _ h)
         ·split at h
          ·rename_i b w hw
           cases b
           ·exact zj8 hE ih hw (u:=notb w) rfl h
           ·exact zj8 hE ih hw (u:=w) rfl h
          ·exact h
     | head all n0 W m0 ls ord m =>
       cases ord with
       | nil=>exact zwt (ih _ h)
       | cons x r =>
         obtain ⟨i,sole⟩:=x;simp only [run] at h
         split at h
         ·rename_i o ho
          split at h
          ·rename_i b w hw
           cases b
           ·exact zi1 hE ih ho hw (u:=notb w) rfl h
           ·exact zi1 hE ih ho hw (u:=w) rfl h
          ·exact h
         ·exact h
     | _=>exact h
def resS (tmps:Array Value):ResultVar→Sem Value
 | .tmp t=>pure (tmps.getD t undef)
 | .cell a t=>do loadVar t (←asAddr (tmps.getD a undef))
theorem zcg (fn:Func) (tmps:Array Value):results fn tmps=(do
 let vs ←fn.results.mapM (resS tmps)
 pure (if h:vs.size=1 then vs[0] else .tuple vs)):=by
 unfold results
 have:(resS tmps)=fun
  | .tmp t=>pure (tmps.getD t undef)
  | .cell a t=>(do loadVar t (←asAddr (tmps.getD a undef))):=by
  funext r
  cases r<;>rfl
 rw [this];rfl
theorem zjz (hE:E.Ok) {ρ:Nat→Nat × Nat} {tm:PT} {a:Act} {mem:List MB} {w:World} (H:Sat E.w0 E.own ρ mem w) (ha:Rel ρ tm a) (htm:TmOk mem.length tm) {r:ResultVar} {v:SV} (h:resE std E.T tm mem r=some v) :
 (resS a.tmps r).run E.P w=.ok (concV ρ v) w:=by
 cases r with
 | tmp t =>
   have:=(zar (x:=.tmp t) ha htm h).1
   simp only [Act.eval] at this;simp [resS,this]
 | cell ad t =>
   simp only [resE] at h
   have hq := (zfs (o := ⟨none, .load t (.tmp ad), 0, "", #[], none⟩) hE.tab ha htm H.ok h (w := w) (fun _ _ h' bk _ _ hb => H.blk h' bk hb) H.hdr).1
   have key:∀ A:Addr,a.eval (.tmp ad)=.pointer (some A)→(resS a.tmps (.cell ad t)).run E.P w=.ok (concV ρ v) w:=fun A e0=>by
    simp only [Act.eval] at e0;unfold execOp at hq;simp only [Act.eval,e0,Instr.loadAt,Instr.sureAddr,Sem.run_bind,Sem.run_pure,Result.andThen_ok] at hq;simp only [resS,e0,asAddr,Sem.run_bind,Sem.run_pure,Result.andThen_ok]
    revert hq
    cases (loadVar t A).run E.P w with
    | ok a w'=>intro hq;simp only [Result.andThen_ok] at hq;cases hq;rfl
    | halt a w'=>intro hq;cases hq
   simp only [quietE] at h
   split at h
   ·rename_i h' base off ti hx ht;exact key _ (zar ha htm hx).1
   ·rename_i h' base off ti hx ht;exact key _ (zar ha htm hx).1
   ·rename_i h' base off ti hx ht;exact key _ (zar ha htm hx).1
   ·cases h
theorem znd (hE:E.Ok) {r:ResultVar} (hr:E.fn.results=#[r]) {k:List It} {tm:PT} {mem:List MB} {v:SV} (hv:resE std E.T tm mem r=some v)
 (h:∀ ρ w,(∀ (h:Nat) p,E.ρ0[h]?=some p→ρ h=p)→Sat E.w0 E.own ρ mem w→R (.returned (concV ρ v)) w):Good E R ⟨.ret::k,tm,mem⟩:=by
 intro ρ w a hρ hl H htm ha hit;refine ⟨ha.defers,concV ρ v,?_,h ρ w hρ H⟩
 have:=zjz hE H ha htm hv
 rw [zcg,hr];simp [this]
theorem zwx (hE:E.Ok) {r s:ResultVar} (hr:E.fn.results=#[r,s]) {k:List It} {tm:PT} {mem:List MB} {v u:SV} (hv:resE std E.T tm mem r=some v) (hu:resE std E.T tm mem s=some u)
 (h:∀ ρ w,(∀ (h:Nat) p,E.ρ0[h]?=some p→ρ h=p)→Sat E.w0 E.own ρ mem w→R (.returned (.tuple #[concV ρ v,concV ρ u])) w):Good E R ⟨.ret::k,tm,mem⟩:=by
 intro ρ w a hρ hl H htm ha hit;refine ⟨ha.defers,.tuple #[concV ρ v,concV ρ u],?_,h ρ w hρ H⟩
 have h1:=zjz hE H ha htm hv
 have h2:=zjz hE H ha htm hu
 rw [zcg,hr];simp [h1,h2]
theorem zab (hE:E.Ok) {A:Ar} (hA:A=std) {T:List (TypeId × TI)} {D:Ords} (hT:E.T=T) (hD:E.D=D) (n:Nat) {st:St} (h:Good E R (run A T D n st)):Good E R st:=by
 subst hA hT hD;exact zla hE n st h
theorem all_cons {X:Nat→MB→Prop} {b0:MB} {l:List MB} (h0:X 0 b0) (hl:∀ (h:Nat) (b:MB),l[h]?=some b→X (h+1) b):∀ (h:Nat) (b:MB),(b0::l)[h]?=some b→X h b
 | 0, b, hb => by
   obtain rfl:b0=b:=by simpa using hb
   exact h0
 | h+1,b,hb=>hl h b (by simpa using hb)
theorem qdk {w w':World} (h:Gr (fun i=>i∈([]:List Nat)) w w'):Below w.heap.size w w':=⟨h.os,h.tape,h.output,h.size,fun i hi=>h.block i hi (by simp)⟩
theorem zhq {P:Program} {c:Code} {Q:Exit→Act→World→Prop} {a:Act} {w:World} {α:Type} (I:α→Act→World→Prop) (μ:α→Nat) (x0:α) (h0:I x0 a w)
 (round:∀ x a w,I x a w→c.wp P (Exit.then (fun a' w'=>∃ y,I y a' w'∧μ y<μ x) Q) a w):(Code.loop c).wp P Q a w:=by
 intro b k cs
 have key:∀ n x a w,μ x=n→I x a w→∃ e a' w',Q e a' w'∧Arrives P (lone (b.at a (.code c::.inLoop c::k)) cs w) b k cs e a' w':=by
  intro n
  induction n using Nat.strongRecOn with
  | _ n ih =>
    intro x a w hn hI;obtain ⟨e,a₁,w₁,hq,harr⟩:=round x a w hI b (.inLoop c::k) cs
    cases e with
    | normal =>
      obtain ⟨y,hI₁,hlt⟩:=hq;obtain ⟨e₂,a₂,w₂,hq₂,harr₂⟩:=ih (μ y) (hn ▸ hlt) y a₁ w₁ rfl hI₁;exact ⟨e₂,a₂,w₂,hq₂,.of_steps (Steps.trans harr (.one step_inLoop)) harr₂⟩
    | exit id=>exact ⟨_,a₁,w₁,hq,.pass (x:=.inLoop c) rfl (fun _ _=>.inl (by simp)) harr⟩
    | goto l=>exact ⟨_,a₁,w₁,hq,.pass (x:=.inLoop c) rfl (fun _ _=>.inl (by simp)) harr⟩
    | ret=>exact ⟨_,a₁,w₁,hq,.pass (x:=.inLoop c) rfl (fun _ _=>.inl (by simp)) harr⟩
    | panic ch=>exact ⟨_,a₁,w₁,hq,.pass (x:=.inLoop c) rfl (fun _ _=>.inl (by simp)) harr⟩
    | outgrown=>exact ⟨_,a₁,w₁,hq,.pass (x:=.inLoop c) rfl (fun _ _=>.inl (by simp)) harr⟩
 obtain ⟨e,a',w',hq,harr⟩:=key _ x0 a w rfl h0;exact ⟨e,a',w',hq,.of_steps (.one step_loop) harr⟩
def plainJ (j:Nat):List It→Bool
 | []=>true
 | .code _::k=>plainJ j k
 | .blk _::k=>plainJ j k
 | .again i::k=>bif Nat.beq i j then false else plainJ j k
 | _=>false
theorem zbv {P:Program} {D:Ords} {fn:Func} {R:Ending→World→Prop} {L L':Nat→Act→World→Prop} {ρ ρ':Nat→Nat × Nat} {j:Nat} (hL:∀ i,i≠j→L i=L' i):∀ {k:List It},plainJ j k=true→cont P D fn R L ρ k=cont P D fn R L' ρ' k
 | [],_=>rfl
 | .code c::k,h=>by simp only [cont,zbv (P:=P) (D:=D) (fn:=fn) (R:=R) (ρ:=ρ) (ρ':=ρ') hL (k:=k) h]
 | .blk c::k,h=>by simp only [cont,zbv (P:=P) (D:=D) (fn:=fn) (R:=R) (ρ:=ρ) (ρ':=ρ') hL (k:=k) h]
 | .again i :: k, h => by
   simp only [plainJ] at h
   cases hb:Nat.beq i j with
   | true=>rw [hb] at h;cases h
   | false =>
     rw [hb] at h
     have hne:i≠j:=fun e=>by subst e;rw [Nat.beq_refl] at hb;cases hb
     simp only [cont,zbv (P:=P) (D:=D) (fn:=fn) (R:=R) (ρ:=ρ) (ρ':=ρ') hL (k:=k) h,hL i hne]
 | .ops _ _::_,h=>by simp [plainJ] at h
 | .head _ _ _ _ _ _ _::_,h=>by simp [plainJ] at h
 | .call _ _ _::_,h=>by simp [plainJ] at h
 | .ret::_,h=>by simp [plainJ] at h
theorem zfu {j:Nat}:∀ {k:List It},plainJ j k=true→∀ it∈k,∀ m,It.ok m it
 | [],_,it,hi,_=>by cases hi
 | .code c :: k, h, it, hi, m => by
   rcases List.mem_cons.1 hi with rfl|hi
   ·trivial
   ·exact zfu (k:=k) h it hi m
 | .blk c :: k, h, it, hi, m => by
   rcases List.mem_cons.1 hi with rfl|hi
   ·trivial
   ·exact zfu (k:=k) h it hi m
 | .again i :: k, h, it, hi, m => by
   simp only [plainJ] at h
   rcases List.mem_cons.1 hi with rfl|hi
   ·trivial
   ·cases hb:Nat.beq i j<;>rw [hb] at h
    ·exact zfu (k:=k) h it hi m
    ·cases h
 | .ops _ _::_,h,_,_,_=>by simp [plainJ] at h
 | .head _ _ _ _ _ _ _::_,h,_,_,_=>by simp [plainJ] at h
 | .call _ _ _::_,h,_,_,_=>by simp [plainJ] at h
 | .ret::_,h,_,_,_=>by simp [plainJ] at h
theorem zvp {n:Nat}:∀ (l:List (Nat × SV)) {tm:PT},TmOk n tm→(∀ x∈l,x.2.ok n)→TmOk n (setV l tm)
 | [],_,h,_=>h
 | (i,v)::l,tm,h,hl=>zvp l (zck (d:=some i) (v:=v) h (hl (i,v) (by simp))) fun x hx=>hl x (by simp [hx])
theorem Sat.take {w0:World} {own:List Nat} {ρ:Nat→Nat × Nat} {mem ex:List MB} {w:World} (H:Sat w0 own ρ (mem++ex) w) (hok:∀ b∈mem,b.ok mem.length):Sat w0 own ρ mem w:=by
 have up:∀ (h:Nat) (b:MB),mem[h]?=some b→(mem++ex)[h]?=some b:=fun h b hb=>by rw [List.getElem?_append_left (List.getElem?_eq_some_iff.1 hb).1];exact hb
 exact ⟨H.gr,fun h b hb=>H.blk h b (up h b hb),hok,fun h b hb=>H.fre h b (up h b hb),fun h k b c hb hc=>H.apt h k b c (up h b hb) (up k c hc)⟩
def Inv (E:Env) (tm:PT) (mem:List MB) (a:Act) (w:World):Prop :=
 ∃ ρ,(∀ (h:Nat) p,E.ρ0[h]?=some p→ρ h=p)∧Sat E.w0 E.own ρ mem w∧Rel ρ tm a
theorem zas {body:Code} {k:List It} {tm:PT} {mem:List MB} (j:Nat) {α:Type} (dead:List Nat) (V:α→List (Nat × SV)) (M:α→List MB) (μ:α→Nat) (x0:α)
 (h0:subP tm (setV (V x0) (fgt dead tm))) (hM:M x0=mem) (hlen:∀ x,(M x).length=mem.length) (hV:∀ x,∀ y∈V x,y.2.ok mem.length) (hk:plainJ j k=true)
 (round:∀ x L',(∀ i,i≠j→E.L i=L' i)→(∀ a w,(∃ y,Inv E (setV (V y) (fgt dead tm)) (M y) a w∧μ y<μ x)→L' j a w)→Good { E with L:=L' } R ⟨.code body::.again j::k,setV (V x) (fgt dead tm),M x⟩) :
 Good E R ⟨.code (.loop body)::k,tm,mem⟩:=by
 intro ρ w a hρ hl H htm ha hit c0 hc0 hchk
 cases c0<;>simp only [stripC] at hc0<;>try (cases hc0;done)
 rename_i b0
 cases hc0
 have hkok:∀ it∈k,∀ m,it.ok m:=fun it hi m=>zfu hk it hi m
 refine zhq (fun x a w=>Inv E (setV (V x) (fgt dead tm)) (M x) a w) μ x0 ⟨ρ,hρ,by rw [hM];exact H,zhg h0 ha⟩ fun x a w hI=>?_
 obtain ⟨ρ',hρ',H',ha'⟩:=hI
 have hg:=round x (fun i=>if i=j then (fun a w=>∃ y,Inv E (setV (V y) (fgt dead tm)) (M y) a w∧μ y<μ x) else E.L i) (fun i hi=>by simp [hi]) (fun a w h=>by simpa using h)
  ρ' w a hρ' (by simpa [hlen x] using hl) H' (by
   have:TmOk mem.length (setV (V x) (fgt dead tm)):=zvp _ (zqh _ htm) (hV x)
   simpa [hlen x] using this) ha' (zd9 trivial trivial fun it hi=>hkok it hi _) b0 rfl hchk
 refine wp_mono hg fun e a w he=>?_
 have hcp:=zbv (P:=E.P) (D:=E.D) (fn:=E.fn) (R:=R) (L:=E.L) (L':=fun i=>if i=j then (fun a w=>∃ y,Inv E (setV (V y) (fgt dead tm)) (M y) a w∧μ y<μ x) else E.L i) (ρ:=ρ) (ρ':=ρ') (j:=j) (fun i hi=>by simp [hi]) hk
 cases e with
 | normal=>simpa [cont,Exit.then] using he
 | _ =>
   simp only [cont,Exit.then] at he ⊢;rw [hcp];exact he
theorem zaw {j:Nat} {k:List It} {tm tm':PT} {mem' ex:List MB} {α:Type} {dead:List Nat} {V:α→List (Nat × SV)} {M:α→List MB} {μ:α→Nat} {x:α} {E0:Env} (hE0:E.w0=E0.w0∧E.own=E0.own∧E.ρ0=E0.ρ0)
 (hL:∀ a w,(∃ y,Inv E0 (setV (V y) (fgt dead tm)) (M y) a w∧μ y<μ x)→E.L j a w) (y:α) (hμ:μ y<μ x) (hsub:subP tm' (setV (V y) (fgt dead tm))) (hm:mem'=M y++ex) (hok:∀ b∈M y,b.ok (M y).length):Good E R ⟨.again j::k,tm',mem'⟩:=by
 intro ρ w a hρ hl H htm ha hit
 refine hL a w ⟨y,⟨ρ,by rw [←hE0.2.2];exact hρ,?_,zhg hsub ha⟩,hμ⟩
 rw [hm] at H;rw [←hE0.1,←hE0.2.1];exact H.take hok
theorem zau {body:Code} {k:List It} {tm:PT} {mem:List MB} (j:Nat) {α:Type} (dead:List Nat) (V:α→List (Nat × SV)) (μ:α→Nat) (x0:α)
 (h0:subP tm (setV (V x0) (fgt dead tm))) (hV:∀ x,∀ y∈V x,y.2.ok mem.length) (hk:plainJ j k=true)
 (round:∀ x L',(∀ b∈mem,b.ok mem.length)→(∀ i,i≠j→E.L i=L' i)→(∀ a w,(∃ y,Inv E (setV (V y) (fgt dead tm)) mem a w∧μ y<μ x)→L' j a w)→Good { E with L:=L' } R ⟨.code body::.again j::k,setV (V x) (fgt dead tm),mem⟩) :
 Good E R ⟨.code (.loop body)::k,tm,mem⟩:=by
 intro ρ w a hρ hl H htm ha hit
 exact zas (E:=E) (R:=R) j dead V (fun _=>mem) μ x0 h0 rfl (fun _=>rfl) hV hk (fun x L' h1 h2=>round x L' H.ok h1 h2) ρ w a hρ hl H htm ha hit
theorem zao {j:Nat} {k:List It} {tm tm':PT} {mem mem' ex:List MB} {α:Type} {dead:List Nat} {V:α→List (Nat × SV)} {μ:α→Nat} {x:α} {E0:Env} (hE0:E.w0=E0.w0∧E.own=E0.own∧E.ρ0=E0.ρ0) (hok:∀ b∈mem,b.ok mem.length)
 (hL:∀ a w,(∃ y,Inv E0 (setV (V y) (fgt dead tm)) mem a w∧μ y<μ x)→E.L j a w) (y:α) (hμ:μ y<μ x) (hsub:subP tm' (setV (V y) (fgt dead tm))) (hm:mem'=mem++ex):Good E R ⟨.again j::k,tm',mem'⟩ :=
 zaw (M:=fun _=>mem) (V:=V) (μ:=μ) hE0 hL y hμ hsub hm hok
end
section
structure FnOk (P:Program) (i:FuncId) (T:List (TypeId × TI)) (D:Ords) (fn:Func) (c:Code):Prop where
 t:TabOk P T
 m:P.follows .mixedOrders=true
 f:P.funcs[i]?=some fn
 b:fn.body=some c
 g:Goes P i
 k:codeChk D c=true
theorem FnOk.of {P:Program} {i:FuncId} {T:List (TypeId × TI)} {D0:Ords} {fn:Func} {c:Code} (F:FnOk P i T D0 fn c) {D:Ords} (h:codeChk D c=true):FnOk P i T D fn c:=⟨F.t,F.m,F.f,F.b,F.g,h⟩
variable {E:Env} {R:Ending→World→Prop}
theorem kC {f:FuncId} {args:List SV} {dst:Option Tmp} {k:List It} {tm:PT} {mem:List MB} (h:Good E R ⟨.call f args dst::k,tm,mem⟩):Good E R ⟨.call f args dst::k,tm,mem⟩:=h
theorem kG {k:List It} {tm:PT} {mem:List MB} (h:Good E R ⟨.ret::k,tm,mem⟩):Good E R ⟨.ret::k,tm,mem⟩:=h
theorem kA {n:Nat} {k:List It} {tm:PT} {mem:List MB} (h:Good E R ⟨.again n::k,tm,mem⟩):Good E R ⟨.again n::k,tm,mem⟩:=h
theorem kL {c:Code} {k:List It} {tm:PT} {mem:List MB} (h:Good E R ⟨.code (.loop c)::k,tm,mem⟩):Good E R ⟨.code (.loop c)::k,tm,mem⟩:=h
theorem kZ {tm:PT} {mem:List MB} (h:Good E R ⟨[],tm,mem⟩):Good E R ⟨[],tm,mem⟩:=h
theorem kN {A:Ar} {st:St} (h:Good E R (run A E.T E.D 400 st)) (hE:E.Ok:=by exact ⟨kE.1,kE.2⟩) (hA:A=std:=by first|exact hA.out|exact hA):Good E R st:=zab hE hA rfl rfl 400 h
end
theorem nm {α:Sort _} (a:α):∃ q,q=a:=⟨a,rfl⟩
inductive K6 where
 | a|b|c|d|e|f
inductive K3 where
 | a|b|c
def s6 {α:Type} (k:K6) (x0 x1 x2 x3 x4 x5:α):α:=match k with | .a=>x0 | .b=>x1 | .c=>x2 | .d=>x3 | .e=>x4 | .f=>x5
def s3 {α:Type} (k:K3) (x0 x1 x2:α):α:=match k with | .a=>x0 | .b=>x1 | .c=>x2
end Eng
def bodyOf (f:Func):Code:=match f.body with|some c=>c|none=>.skip
end Go.Proofs.YtpigpajgjdcagaaGreat
