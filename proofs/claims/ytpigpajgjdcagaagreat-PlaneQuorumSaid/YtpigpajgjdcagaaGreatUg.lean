/- Parts. -/
import Derived.Test.YtpigpajgjdcagaaGreatUf
import Derived.Ground.SlgnProg
import Derived.Shelf.SlicesE.Clone
import Derived.Test.YtpigpajgjdcagaaGreatProg
set_option linter.unusedSimpArgs false
set_option linter.unusedVariables false
set_option maxRecDepth 100000
set_option maxHeartbeats 60000000
namespace Go.Proofs.YtpigpajgjdcagaaGreat
open Go.RowKit
namespace Eng
def bad (i:Nat):Nat:=5000000+i
theorem qah (i:Nat):boff (bad i)=i:=by unfold boff bad;exact Nat.add_sub_cancel_left ..
theorem qa7 (i:Nat):5000000≤bad i:=by unfold bad;exact Nat.le_add_right _ _
inductive BK where
 | mk (v:Nat→SV) (b:MB)
 | call (f:FuncId) (args:List SV) (v:SV)
 | fin (dl:List (Nat × Nat × (Nat→SV))) (g:(Nat→Nat)→SV)
structure BE where
 i:Nat
 d:Nat
 k:BK
def mks:List BE→List (Nat × MB)
 | []=>[]
 | e :: l => match e.k with
   | .mk _ b=>(e.i,b)::mks l
   | .call _ _ _=>mks l
   | .fin _ _=>mks l
def bagTm (π:Nat→Nat):List BE→Nat→PT→PT
 | [],_,tm=>tm
 | e :: l, h, tm => match e.k with
   | .mk v _=>bagTm π l (h+1) (tset tm e.d (v h))
   | .call _ _ v=>bagTm π l h (tset tm e.d v)
   | .fin _ g=>bagTm π l h (tset tm e.d (g π))
def hOf:List (Nat × MB)→Nat→Nat→Nat
 | [],b,_=>b
 | x::l,b,i=>bif Nat.beq x.1 i then b else hOf l (b+1) i
theorem zo7:∀ {l:List (Nat × MB)} {b j:Nat} {x:Nat × MB},(∀ (i j:Nat) (x y:Nat × MB),l[i]?=some x→l[j]?=some y→x.1=y.1→i=j)→l[j]?=some x→hOf l b x.1=b+j
 | [],b,j,x,_,h=>by simp at h
 | y :: l, b, 0, x, _, h => by
   obtain rfl:y=x:=by simpa using h
   simp [hOf,Nat.beq_refl]
 | y :: l, b, j + 1, x, hn, h => by
   have hne:Nat.beq y.1 x.1=false:=by
    cases e:Nat.beq y.1 x.1 with
    | false=>rfl
    | true=>have:=hn 0 (j+1) y x (by simp) h (Nat.eq_of_beq_eq_true e);omega
   simp only [hOf,hne,cond_false]
   rw [zo7 (l:=l) (b:=b+1) (j:=j) (x:=x) (fun i j x y hx hy he=>by have:=hn (i+1) (j+1) x y (by simpa using hx) (by simpa using hy) he;omega) (by simpa using h)]
   omega
def setDeps:List (Nat × Nat × (Nat→SV))→(Nat→Nat)→PT→PT
 | [],_,tm=>tm
 | x::l,π,tm=>setDeps l π (tset tm x.2.1 (x.2.2 (π x.1)))
theorem zh8 {ρ:Nat→Nat × Nat} {a:Act} {π:Nat→Nat}:∀ {l:List (Nat × Nat × (Nat→SV))} {tm:PT},Rel ρ tm a→(∀ x∈l,a.tmps[x.2.1]?=some (concV ρ (x.2.2 (π x.1))))→Rel ρ (setDeps l π tm) a
 | [],tm,h,_=>h
 | x :: l, tm, h, hd => zh8 (l := l) (tm := tset tm x.2.1 (x.2.2 (π x.1))) ⟨h.defers, fun t v hv => by
     rcases za5 tm x.2.1 (x.2.2 (π x.1)) t v hv with ⟨rfl,rfl,_⟩|⟨_,h2⟩
     ·exact ⟨_,hd x (by simp),fun _=>rfl⟩
     ·exact h.get t v h2⟩ fun y hy=>hd y (by simp [hy])
theorem zjx {n:Nat} {π:Nat→Nat}:∀ {l:List (Nat × Nat × (Nat→SV))} {tm:PT},TmOk n tm→(∀ x∈l,(x.2.2 (π x.1)).ok n)→TmOk n (setDeps l π tm)
 | [],tm,h,_=>h
 | x :: l, tm, h, hd => zjx (l := l) (tm := tset tm x.2.1 (x.2.2 (π x.1))) (fun t v hv => by
     rcases za5 tm x.2.1 (x.2.2 (π x.1)) t v hv with ⟨rfl,rfl,_⟩|⟨_,h2⟩
     ·exact hd x (by simp)
     ·exact h t v h2) fun y hy=>hd y (by simp [hy])
def buildsOf (op:Op) (d:Nat):Bool:=match op with
 | .build _ fs => fs.any fun x => match x.2 with
   | .tmp t=>t == d
   | _=>false
 | _=>false
def bagMem (bag:List BE) (mem:List MB):List MB:=mem++(mks bag).map (·.2)
def dsts:List BE→List Nat
 | []=>[]
 | e::l=>e.d::dsts l
theorem zpc:∀ l,dsts l=l.map (·.d)
 | []=>rfl
 | e::l=>by simp [dsts,zpc l]
def idxs:List BE→List Nat
 | []=>[]
 | e::l=>e.i::idxs l
theorem zfb:∀ l,idxs l=l.map (·.i)
 | []=>rfl
 | e::l=>by simp [idxs,zfb l]
def dis:List Nat→Bool
 | []=>true
 | x::l=>bif inL l x then false else dis l
theorem zi8:∀ {l:List Nat},dis l=true→l.Nodup
 | [],_=>List.nodup_nil
 | x :: l, h => by
   simp only [dis] at h
   cases hx:inL l x with
   | true=>rw [hx] at h;cases h
   | false =>
     rw [hx] at h
     refine List.nodup_cons.2 ⟨fun hm=>?_,zi8 h⟩
     rw [zds.2 hm] at hx;cases hx
section
variable {E:Env} {R:Ending→World→Prop}
def BE.Ok (E:Env) (all:List Oper) (n0:Nat) (W:List Nat) (ds:List Nat) (tm:PT) (mem:List MB) (e:BE):Prop :=
 ∃ (o : Oper) (x : Bool × Bool), nth all e.i = some o ∧ o.dst = some e.d ∧ wantE all (fgt ds tm) o = some x ∧ wantB x = true ∧ (∃ u, tget (fgt ds tm) e.d = some u) ∧ match e.k with
   | .mk v b=>(∀ ex:List MB,effE std E.T n0 W o.op (fgt ds tm) (mem++ex)=some (v (len (mem++ex)),(mem++ex)++[b]))∧(∀ ρ ρ' h h',ρ h=ρ' h'→concV ρ (v h)=concV ρ' (v h'))∧(∀ h n,h<n→(v h).ok n)∧(∀ n,b.ok n)
   | .fin dl g=>(∀ π,quietE std E.T o.op (setDeps dl π (fgt ds tm)) []=some (g π))∧(∀ ρ ρ' π π',(∀ x∈dl,ρ (π x.1)=ρ' (π' x.1))→concV ρ (g π)=concV ρ' (g π'))∧(∀ π n,(∀ x∈dl,π x.1<n)→(g π).ok n)∧∀ x∈dl,buildsOf o.op x.2.1=true
   | .call f args v=>callE (fgt ds tm) o.op=some (f,args)∧Goes E.P f∧v.ok mem.length∧∀ (ex:List MB) ρ w,Sat E.w0 E.own ρ (mem++ex) w→Calls E.P f (args.map (concV ρ)).toArray w fun e w'=>e=.returned (concV ρ v)∧Sat E.w0 E.own ρ (mem++ex) w'
def BagP (E:Env) (bag:List BE) (mem:List MB) (ρ:Nat→Nat × Nat) (a0:Act) (rem:List Nat) (a:Act) (w:World):Prop :=
 ∃ (ex : List (Nat × MB)) (ρ' : Nat → Nat × Nat), (∀ h, h < mem.length → ρ h = ρ' h) ∧ Sat E.w0 E.own ρ' (mem ++ ex.map (·.2)) w ∧
   (∀ e∈bag,e.i ∉ rem→match e.k with
    | .mk v b=>∃ j,ex[j]?=some (e.i,b)∧a.tmps[e.d]?=some (concV ρ' (v (mem.length+j)))
    | .call _ _ v=>a.tmps[e.d]?=some (concV ρ v)
    | .fin dl g=>∃ π,(∀ x∈dl,∃ j b,ex[j]?=some (x.1,b)∧π x.1=mem.length+j)∧a.tmps[e.d]?=some (concV ρ' (g π))) ∧
   (∀ t,(∀ e∈bag,e.i ∉ rem→e.d≠t)→a.tmps[t]?=a0.tmps[t]?)∧a.defers=[]∧(∀ (i j:Nat) (x y:Nat × MB),ex[i]?=some x→ex[j]?=some y→x.1=y.1→i=j)∧∀ x∈ex,x.1 ∉ rem
theorem zw8:∀ (l:List Nat) {tm:PT} {t:Nat} {v:SV},tget (fgt l tm) t=some v→(t∈l∧v=.any∧∃ u,tget tm t=some u)∨(tget tm t=some v∧(t ∉ l∨v=.any))
 | [],tm,t,v,h=>.inr ⟨h,.inl (by simp)⟩
 | i :: l, tm, t, v, h => by
   rcases zw8 l (tm:=tset tm i .any) h with ⟨h1,h2,u,h3⟩|⟨h1,h2⟩
   ·refine .inl ⟨by simp [h1],h2,?_⟩
    rcases za5 tm i .any t u h3 with ⟨rfl,_,x,hx⟩|⟨_,hx⟩
    ·exact ⟨x,hx⟩
    ·exact ⟨u,hx⟩
   ·rcases za5 tm i .any t v h1 with ⟨rfl,rfl,x,hx⟩|⟨hne,hx⟩
    ·exact .inl ⟨by simp,rfl,x,hx⟩
    ·exact .inr ⟨hx,h2.imp (fun h=>by simp [hne,h]) fun h=>h⟩
theorem qct {bag:List BE} {mem:List MB} {ρ ρ':Nat→Nat × Nat} {a0 a:Act} {rem:List Nat} {tm:PT} (htm:TmOk mem.length tm) (ha:Rel ρ tm a0) (hag:∀ h,h<mem.length→ρ h=ρ' h)
 (hd:∀ e∈bag,e.i ∉ rem→∃ u,a.tmps[e.d]?=some u) (ho:∀ t,(∀ e∈bag,e.i ∉ rem→e.d≠t)→a.tmps[t]?=a0.tmps[t]?) (hdf:a.defers=[]):Rel ρ' (fgt (dsts bag) tm) a:=by
 refine ⟨hdf,fun t v hv=>?_⟩
 have hex:∀ u,tget tm t=some u→∃ x,a.tmps[t]?=some x:=fun u hu=>by
  by_cases hc:∀ e∈bag,e.i ∉ rem→e.d≠t
  ·rw [ho t hc]
   obtain ⟨x,hx,_⟩:=ha.get t u hu;exact ⟨x,hx⟩
  ·simp only [Classical.not_forall] at hc
   obtain ⟨e,he,hr,hne⟩:=hc;rw [Classical.not_not] at hne;subst hne;exact hd e he hr
 rcases zw8 _ hv with ⟨_,rfl,u,hu⟩|⟨h1,h2⟩
 ·obtain ⟨x,hx⟩:=hex u hu
  exact ⟨x,hx,fun h=>absurd rfl h⟩
 ·by_cases hva:v=.any
  ·obtain ⟨x,hx⟩:=hex v h1
   exact ⟨x,hx,fun h=>absurd hva h⟩
  ·have hn:=h2.resolve_right hva
   have hc:∀ e∈bag,e.i ∉ rem→e.d≠t:=fun e he _ hne=>hn (by rw [zpc,←hne];exact List.mem_map_of_mem he)
   refine ⟨concV ρ v,?_,fun _=>zaz hag (htm t v h1)⟩
   rw [ho t hc];exact ha.at_ h1 hva
theorem zeh (π:Nat→Nat):∀ (l:List BE) (h:Nat) (tm:PT) (t:Nat) (v:SV),(l.map (·.d)).Nodup→tget (bagTm π l h tm) t=some v →
 (∃ e∈l,e.d=t∧match e.k with | .mk g b=>∃ j,(mks l)[j]?=some (e.i,b)∧v=g (h+j) | .call _ _ u=>v=u | .fin _ g=>v=g π)∨((∀ e∈l,e.d≠t)∧tget tm t=some v)
 | [],h,tm,t,v,_,hv=>.inr ⟨fun e he=>(by cases he),hv⟩
 | e :: l, h, tm, t, v, hnd, hv => by
   rw [List.map_cons,List.nodup_cons] at hnd;obtain ⟨hn,hnd⟩:=hnd
   have hne:∀ e'∈l,e'.d≠e.d:=fun e' he' hc=>hn (by rw [←hc];exact List.mem_map_of_mem he')
   cases hk:e.k with
   | mk g b =>
     simp only [bagTm,hk] at hv
     rcases zeh π l (h+1) _ t v hnd hv with ⟨e',he',hd',hm⟩|⟨h1,h2⟩
     ·refine .inl ⟨e',by simp [he'],hd',?_⟩
      cases hk':e'.k with
      | mk g' b' =>
        rw [hk'] at hm;obtain ⟨j,hj,hvj⟩:=hm
        exact ⟨j+1,by simp [mks,hk,hj],by rw [hvj];congr 1;omega⟩
      | call f args u=>rw [hk'] at hm;exact hm
      | fin dl g'=>rw [hk'] at hm;exact hm
     ·rcases za5 tm e.d (g h) t v h2 with ⟨rfl,rfl,_⟩|⟨h3,h4⟩
      ·exact .inl ⟨e,by simp,rfl,by rw [hk];exact ⟨0,by simp [mks,hk],rfl⟩⟩
      ·exact .inr ⟨fun e' he'=>by rcases List.mem_cons.1 he' with rfl|he';exact Ne.symm h3;exact h1 e' he',h4⟩
   | call f args u =>
     simp only [bagTm,hk] at hv
     rcases zeh π l h _ t v hnd hv with ⟨e',he',hd',hm⟩|⟨h1,h2⟩
     ·refine .inl ⟨e',by simp [he'],hd',?_⟩
      cases hk':e'.k with
      | mk g' b' =>
        rw [hk'] at hm;obtain ⟨j,hj,hvj⟩:=hm
        exact ⟨j,by simp [mks,hk,hj],hvj⟩
      | call f args u=>rw [hk'] at hm;exact hm
      | fin dl g'=>rw [hk'] at hm;exact hm
     ·rcases za5 tm e.d u t v h2 with ⟨rfl,rfl,_⟩|⟨h3,h4⟩
      ·exact .inl ⟨e,by simp,rfl,by rw [hk]⟩
      ·exact .inr ⟨fun e' he'=>by rcases List.mem_cons.1 he' with rfl|he';exact Ne.symm h3;exact h1 e' he',h4⟩
   | fin dl g =>
     simp only [bagTm,hk] at hv
     rcases zeh π l h _ t v hnd hv with ⟨e',he',hd',hm⟩|⟨h1,h2⟩
     ·refine .inl ⟨e',by simp [he'],hd',?_⟩
      cases hk':e'.k with
      | mk g' b' =>
        rw [hk'] at hm;obtain ⟨j,hj,hvj⟩:=hm
        exact ⟨j,by simp [mks,hk,hj],hvj⟩
      | call f args u=>rw [hk'] at hm;exact hm
      | fin dl g'=>rw [hk'] at hm;exact hm
     ·rcases za5 tm e.d (g π) t v h2 with ⟨rfl,rfl,_⟩|⟨h3,h4⟩
      ·exact .inl ⟨e,by simp,rfl,by rw [hk]⟩
      ·exact .inr ⟨fun e' he'=>by rcases List.mem_cons.1 he' with rfl|he';exact Ne.symm h3;exact h1 e' he',h4⟩
theorem zgq:∀ {l:List BE} {j:Nat} {x:Nat × MB},(mks l)[j]?=some x→∃ e∈l,e.i=x.1∧∃ v,e.k=.mk v x.2
 | [],j,x,h=>by simp [mks] at h
 | e :: l, j, x, h => by
   cases hk:e.k with
   | mk v b =>
     simp only [mks,hk] at h
     cases j with
     | zero =>
       obtain rfl:(e.i,b)=x:=by simpa using h
       exact ⟨e,by simp,rfl,v,hk⟩
     | succ j =>
       obtain ⟨e',he',h1⟩:=zgq (l:=l) (j:=j) (x:=x) (by simpa using h)
       exact ⟨e',by simp [he'],h1⟩
   | call f args u =>
     simp only [mks,hk] at h;obtain ⟨e',he',h1⟩:=zgq (l:=l) (j:=j) (x:=x) h
     exact ⟨e',by simp [he'],h1⟩
   | fin dl g =>
     simp only [mks,hk] at h;obtain ⟨e',he',h1⟩:=zgq (l:=l) (j:=j) (x:=x) h
     exact ⟨e',by simp [he'],h1⟩
theorem zwb {v:Nat→SV} {b:MB}:∀ {l:List BE} {e:BE},e∈l→e.k=.mk v b→∃ j:Nat,(mks l)[j]?=some (e.i,b)
 | [],e,h,_=>by cases h
 | y :: l, e, h, hk => by
   rcases List.mem_cons.1 h with rfl|h
   ·exact ⟨0,by simp [mks,hk]⟩
   ·obtain ⟨j,hj⟩:=zwb h hk
    cases hy:y.k with
    | mk v' b'=>exact ⟨j+1,by simp [mks,hy,hj]⟩
    | call f args u=>exact ⟨j,by simp [mks,hy,hj]⟩
    | fin dl g=>exact ⟨j,by simp [mks,hy,hj]⟩
theorem zdf:∀ {l:List BE},(l.map (·.i)).Nodup→∀ {i j:Nat} {x y:Nat × MB},(mks l)[i]?=some x→(mks l)[j]?=some y→x.1=y.1→i=j
 | [],_,i,j,x,y,h,_,_=>by simp [mks] at h
 | e :: l, hn, i, j, x, y, hx, hy, he => by
   rw [List.map_cons,List.nodup_cons] at hn
   have hout:∀ {i:Nat} {x:Nat × MB},(mks l)[i]?=some x→x.1≠e.i:=fun h hc=>by
    obtain ⟨e',he',h1,_⟩:=zgq h
    exact hn.1 (by rw [←hc,←h1];exact List.mem_map_of_mem he')
   cases hk:e.k with
   | mk v b =>
     simp only [mks,hk] at hx hy
     cases i<;>cases j
     ·rfl
     ·obtain rfl:(e.i,b)=x:=by simpa using hx
      exact absurd he.symm (hout (by simpa using hy))
     ·obtain rfl:(e.i,b)=y:=by simpa using hy
      exact absurd he (hout (by simpa using hx))
     ·rename_i i j
      have:=zdf hn.2 (i:=i) (j:=j) (by simpa using hx) (by simpa using hy) he
      omega
   | call f args u =>
     simp only [mks,hk] at hx hy;exact zdf hn.2 hx hy he
   | fin dl g =>
     simp only [mks,hk] at hx hy;exact zdf hn.2 hx hy he
theorem Sat.perm {w0:World} {own:List Nat} {ρ:Nat→Nat × Nat} {m1 m2:List MB} {w:World} (n:Nat) (σ:Nat→Nat) (hσ:∀ h,h<n→σ h=h) (hinj:∀ h k,h<m2.length→k<m2.length→σ h=σ k→h=k)
 (hm:∀ h b,m2[h]?=some b→m1[σ h]?=some b∧b.ok n) (hn:n≤m2.length) (H:Sat w0 own ρ m1 w):Sat w0 own (ρ ∘ σ) m2 w:=by
 refine ⟨H.gr,fun h b hb=>?_,fun b hb=>?_,fun h b hb=>?_,fun h k b c hb hc hne=>?_⟩
 ·obtain ⟨h1,h2⟩:=hm h b hb
  exact (H.blk _ b h1).congr (n:=n) (fun i hi=>by simp [hσ i hi]) h2
 ·obtain ⟨h,hb⟩:=List.getElem?_of_mem hb
  exact (hm h b hb).2.mono hn
 ·exact H.fre _ b (hm h b hb).1
 ·refine H.apt _ _ b c (hm h b hb).1 (hm k c hc).1 fun e=>hne (hinj h k ?_ ?_ e)
  ·exact (List.getElem?_eq_some_iff.1 hb).1
  ·exact (List.getElem?_eq_some_iff.1 hc).1
def lowB:List (Nat × Bool)→Bool
 | []=>true
 | x::_=>Nat.blt x.1 5000000
theorem qcu {l:List Nat} {r2:List (Nat × Bool)} (h:lowB r2=true):bagOf (l.map (fun i=>(bad i,true))++r2)=l∧restOf (l.map (fun i=>(bad i,true))++r2)=r2:=by
 induction l with
 | nil =>
   cases r2 with
   | nil=>exact ⟨rfl,rfl⟩
   | cons x r =>
     have hx:Nat.ble 5000000 x.1=false:=by
      have:=Nat.le_of_ble_eq_true h
      cases hb:Nat.ble 5000000 x.1 with
      | false=>rfl
      | true=>have:=Nat.le_of_ble_eq_true hb;omega
     simp [bagOf,restOf,hx]
 | cons i l ih =>
   have hi:Nat.ble 5000000 (bad i)=true:=Nat.ble_eq_true_of_le (qa7 i)
   simp only [List.map_cons,List.cons_append,bagOf,restOf,hi,cond_true,ih,qah,and_self]
theorem zep (l0:List Oper):∀ (ls:List Nat) (i:Nat),(listedOf l0 ls)[i]?=if i<l0.length then some (decide (i∈ls)) else none
 | [], i => by
   simp only [listedOf]
   by_cases h:i<l0.length<;>simp [h]
 | j :: ls, i => by
   simp only [listedOf]
   by_cases hij:j=i
   ·subst hij
    have:=zep l0 ls j
    by_cases h:j<l0.length
    ·rw [if_pos h] at this ⊢
     have hl:=(Array.getElem?_eq_some_iff.1 this).1
     simp [hl]
    ·rw [if_neg h] at this ⊢
     have:(listedOf l0 ls).size≤j:=by simpa using this
     simp [this]
   ·rw [Array.getElem?_setIfInBounds_ne hij,zep l0 ls i]
    simp [Ne.symm hij]
theorem zwh (l0:List Oper) {l1 l2:List Nat} (h:∀ i,i∈l1↔i∈l2):listedOf l0 l1=listedOf l0 l2:=by
 refine Array.ext_getElem? fun i=>?_
 rw [zep,zep];simp [h i]
theorem zim {α β:Type} {f:α→β}:∀ {l:List α},(l.map f).Nodup→∀ {x y:α},x∈l→y∈l→f x=f y→x=y
 | [],_,x,y,hx,_,_=>by cases hx
 | z :: l, hn, x, y, hx, hy, he => by
   rw [List.map_cons,List.nodup_cons] at hn
   rcases List.mem_cons.1 hx with rfl|hx<;>rcases List.mem_cons.1 hy with rfl|hy
   ·rfl
   ·exact absurd (by rw [he];exact List.mem_map_of_mem (by assumption)) hn.1
   ·exact absurd (by rw [←he];exact List.mem_map_of_mem (by assumption)) hn.1
   ·exact zim hn.2 hx hy he
theorem zel {α:Type} {x y:α} {i:Nat} (h:[x][i]?=some y):i=0∧y=x:=by
 cases i with
 | zero=>exact ⟨rfl,by simpa using h.symm⟩
 | succ i=>simp at h
theorem qa6 {ops:Array Oper} {m:Nat} {K:Array Bool→Bool}:∀ {N:Nat} {listed:Array Bool} {rem:List Nat},rem.length=N→rem.Nodup→bagChk ops m K N listed rem=true→∀ j∈rem,listed.getD j true=false
 | 0, _, rem, hN, _, _, j, hj => by
   rw [List.eq_nil_of_length_eq_zero hN] at hj
   cases hj
 | N + 1, listed, rem, hN, hnd, h, j, hj => by
   cases rem with
   | nil=>cases hj
   | cons x l =>
     simp only [bagChk,Bool.and_eq_true] at h;obtain ⟨h1,h2⟩:=h
     cases hr:Region.ready .any ops listed with
     | nil=>rw [hr] at h1;simp at h1
     | cons i r =>
       have hi:i∈Region.ready .any ops listed:=by rw [hr];simp
       have h3:=List.all_eq_true.1 h2 i hi
       simp only [Bool.and_eq_true] at h3
       have hir:i∈x::l:=by simpa using h3.1.1
       have hiu:listed.getD i true=false:=by
        have:=(List.mem_filter.1 hi).2
        simp only [Bool.and_eq_true,Bool.not_eq_true'] at this;exact this.1
       by_cases e:j=i
       ·rw [e];exact hiu
       ·have:=qa6 (N:=N) (rem:=(x::l).erase i) (by rw [List.length_erase_of_mem hir];omega) (hnd.erase _) h3.2 j ((hnd.mem_erase_iff).2 ⟨e,hj⟩)
        rw [Array.getD_eq_getD_getElem?] at this ⊢
        rwa [Array.getElem?_setIfInBounds_ne (Ne.symm e)] at this
theorem zng (hE:E.Ok) (bag:List BE) {all:List Oper} {n0:Nat} {W:List Nat} {m0:List MB} {ls:List Nat} {ord:List (Nat × Bool)} {m:Nat} {k:List It} {tm:PT} {mem:List MB} (hsz:Nat.ble (len all) 1000=true) {r2:List (Nat × Bool)} (hne:bag≠[]) (hord:ord=(idxs bag).map (fun i=>(bad i,true))++r2) (hr2:lowB r2=true) (hk:plainK k=true) (hdi:dis (idxs bag)=true) (hdd:dis (dsts bag)=true)
 (hops:∀ e∈bag,e.Ok E all n0 W (dsts bag) tm mem) (hfin:∀ e∈bag,∀ dl g,e.k=.fin dl g→∀ x∈dl,∃ e'∈bag,e'.i=x.1∧e'.d=x.2.1∧∃ b,e'.k=.mk x.2.2 b) (h:Good E R ⟨.head all n0 W m0 (idxs bag++ls) r2 m::k,bagTm (hOf (mks bag) mem.length) bag mem.length tm,bagMem bag mem⟩):Good E R ⟨.head all n0 W m0 ls ord m::k,tm,mem⟩:=by
 intro ρ w a hρ hl H htm ha hit l0 hl0 hO inv hc;obtain ⟨a1,a2,a3,a4⟩:=hd hit;dsimp only at hl H htm ha hit a1 a2 a3 a4
 have hni:=zi8 hdi
 have hnd:=zi8 hdd
 rw [zfb] at hni;rw [zpc] at hnd
 have hsz':l0.length≤1000:=by
  have h5:=Nat.le_of_ble_eq_true hsz
  rw [zaq,←hl0,za9,List.length_map] at h5;exact h5
 have hlen:ord.length=(idxs bag).length+r2.length:=by rw [hord];simp
 have hcb2:bagDep l0.toArray (idxs bag)=true∧bagChk l0.toArray m (fun l=>ordChk0 l0.toArray m l r2) (idxs bag).length (listedOf l0 ls) (idxs bag)=true:=by
  obtain ⟨h1,h2⟩:=qcu (l:=idxs bag) hr2
  cases hb:idxs bag with
  | nil => cases bag with
    | nil=>exact absurd rfl hne
    | cons e l=>simp [idxs] at hb
  | cons i0 l =>
    rw [hb] at hord h1 h2;rw [←hord] at h1 h2;rw [List.map_cons,List.cons_append] at hord;obtain ⟨q,hq⟩:∃ q,q=bad i0:=⟨_,rfl⟩
    have hq5:5000000≤q:=by rw [hq];exact qa7 _
    rw [←hq] at hord
    have hm:=hO.le
    simp only [List.size_toArray] at hm;rw [hord] at hc h1 h2;simp only [ordChk,Bool.or_eq_true,Bool.and_eq_true] at hc
    rcases hc with h3|h3|h3
    ·have:=h3.2
     rw [h1,h2] at this;exact this
    ·have h4:q<m:=Nat.le_of_ble_eq_true h3.1.1.1
     omega
    ·have h4:q / 1000-1<m:=Nat.le_of_ble_eq_true h3.1.1.1.1.2
     omega
 have hcb:=hcb2.2
 have hS:∀ (ρ':Nat→Nat × Nat) (ex:List MB) (w':World),(∀ h,h<mem.length→ρ h=ρ' h)→Sat E.w0 E.own ρ' (mem++ex) w'→S0 ρ W m0 w':=fun ρ' ex w' hag H'=>by
  rw [zgh (ρ:=ρ) (ρ':=ρ') (fun h hh=>hag h (by omega)) (by rw [a1] at a3;exact a3)]
  intro h b hb hw
  have hh:=(List.getElem?_eq_some_iff.1 hb).1
  refine H'.blk h b ?_
  rw [List.getElem?_append_left (by omega)]
  exact (a4 h (by omega) hw).trans hb
 obtain ⟨ls0,hls0⟩:∃ q,q=ls:=⟨_,rfl⟩;rw [←hls0] at h
 have key:∀ (N:Nat) (rem:List Nat) (ls:List Nat) (a':Act) (w':World),rem.length=N→(∀ i,i∈rem++ls↔i∈idxs bag++ls0)→bagChk l0.toArray m (fun l=>ordChk0 l0.toArray m l r2) N (listedOf l0 ls) rem=true→HeadInv .any l0.toArray m (listedOf l0 ls)→rem.Nodup→(∀ i∈rem,∃ e∈bag,e.i=i)→BagP E bag mem ρ a rem a' w' →
  heldAny E.P .any l0.toArray (cont E.P E.D E.fn R E.L ρ k) (S0 ρ W m0) m (l0.length-m) (N+r2.length) (listedOf l0 ls) a' w':=by
  intro N
  induction N with
  | zero =>
    intro rem ls a' w' hN hall hchk hinv hnr hsub hP;obtain rfl:rem=[]:=List.eq_nil_of_length_eq_zero hN;obtain ⟨ex,ρ',hag,H',hdone,hoth,hdf,hexn,hexr⟩:=hP
    obtain ⟨σ0,hσ0⟩:∃ σ0:Nat→Nat,∀ j x,(mks bag)[j]?=some x→ex[σ0 j]?=some x:=by
     refine Classical.axiomOfChoice (r:=fun j y=>∀ x,(mks bag)[j]?=some x→ex[y]?=some x) fun j=>?_
     cases hj:(mks bag)[j]? with
     | none=>exact ⟨0,fun x hx=>by cases hx⟩
     | some x =>
       obtain ⟨e,he,h1,v,h2⟩:=zgq hj
       have:=hdone e he (by simp)
       rw [h2] at this;obtain ⟨j',hj',_⟩:=this
       refine ⟨j',fun y hy=>?_⟩
       cases hy
       rw [hj',h1]
    obtain ⟨σ,hσdef⟩:∃ σ:Nat→Nat,σ=fun h=>if h<mem.length then h else mem.length+σ0 (h-mem.length):=⟨_,rfl⟩
    have hσl:∀ h,h<mem.length→σ h=h:=fun h hh=>by rw [hσdef];simp [hh]
    have hσr:∀ j,σ (mem.length+j)=mem.length+σ0 j:=fun j=>by
     have:¬ mem.length+j<mem.length:=by omega
     rw [hσdef];simp [this]
    have hgetF:∀ h b,(bagMem bag mem)[h]?=some b→(h<mem.length∧mem[h]?=some b)∨∃ j x,h=mem.length+j∧(mks bag)[j]?=some x∧b=x.2:=fun h b hb=>by
     unfold bagMem at hb
     rcases Nat.lt_or_ge h mem.length with h1|h1
     ·rw [List.getElem?_append_left h1] at hb
      exact .inl ⟨h1,hb⟩
     ·rw [List.getElem?_append_right h1,List.getElem?_map,Option.map_eq_some_iff] at hb
      obtain ⟨x,hx,rfl⟩:=hb
      exact .inr ⟨h-mem.length,x,by omega,hx,rfl⟩
    have hlF:mem.length≤(bagMem bag mem).length:=by unfold bagMem;rw [List.length_append];omega
    have HF:Sat E.w0 E.own (ρ' ∘ σ) (bagMem bag mem) w':=by
     refine Sat.perm mem.length σ hσl (fun h k hh hk he=>?_) (fun h b hb=>?_) hlF H'
     ·obtain ⟨b,hb⟩:∃ b,(bagMem bag mem)[h]?=some b:=⟨_,List.getElem?_eq_getElem hh⟩
      obtain ⟨c,hc⟩:∃ c,(bagMem bag mem)[k]?=some c:=⟨_,List.getElem?_eq_getElem hk⟩
      rcases hgetF h b hb with ⟨h1,_⟩|⟨j,x,rfl,h1,_⟩<;>rcases hgetF k c hc with ⟨k1,_⟩|⟨j',y,rfl,k1,_⟩
      ·rw [hσl h h1,hσl k k1] at he;exact he
      ·rw [hσl h h1,hσr] at he;omega
      ·rw [hσr,hσl k k1] at he;omega
      ·rw [hσr,hσr] at he
       have e1:=hσ0 j x h1
       have e2:=hσ0 j' y k1
       rw [show σ0 j=σ0 j' by omega] at e1
       obtain rfl:=Option.some.inj (e1.symm.trans e2);rw [zdf hni h1 k1 rfl]
     ·rcases hgetF h b hb with ⟨h1,h2⟩|⟨j,x,rfl,h1,rfl⟩
      ·rw [hσl h h1,List.getElem?_append_left h1]
       exact ⟨h2,H.ok b (List.mem_of_getElem? h2)⟩
      ·rw [hσr,List.getElem?_append_right (by omega),Nat.add_sub_cancel_left,List.getElem?_map,hσ0 j x h1]
       obtain ⟨e,he,h3,v,h4⟩:=zgq h1;obtain ⟨_,_,_,_,_,_,_,h5⟩:=hops e he;rw [h4] at h5;exact ⟨rfl,h5.2.2.2 _⟩
    have hagF:∀ h,h<mem.length→ρ h=(ρ' ∘ σ) h:=fun h hh=>by show ρ h=ρ' (σ h);rw [hσl h hh,hag h hh]
    have hRelF:Rel (ρ' ∘ σ) (bagTm (hOf (mks bag) mem.length) bag mem.length tm) a':=by
     refine ⟨hdf,fun t v hv=>?_⟩
     rcases zeh _ bag mem.length tm t v hnd hv with ⟨e,he,rfl,hm⟩|⟨h1,h2⟩
     ·have hd':=hdone e he (by simp)
      cases hke:e.k with
      | mk g b =>
        rw [hke] at hm hd';obtain ⟨j,hj,rfl⟩:=hm;obtain ⟨j',hj',ht⟩:=hd'
        have e1:=hσ0 j _ hj
        obtain ⟨_,_,_,_,_,_,_,h5⟩:=hops e he;rw [hke] at h5
        refine ⟨_,ht,fun _=>h5.2.1 _ _ _ _ ?_⟩
        show ρ' (mem.length+j')=ρ' (σ (mem.length+j))
        rw [hσr]
        have e2:ex[σ0 j]?=some (e.i,b):=e1
        by_cases hjj:j'=σ0 j
        ·rw [hjj]
        ·exact absurd (hexn j' (σ0 j) _ _ hj' e2 rfl) hjj
      | call f args u =>
        rw [hke] at hm hd';subst hm;obtain ⟨_,_,_,_,_,_,_,h5⟩:=hops e he;rw [hke] at h5
        exact ⟨_,hd',fun _=>zaz hagF h5.2.2.1⟩
      | fin dl g =>
        rw [hke] at hm hd';subst hm;obtain ⟨π,hπ,ht⟩:=hd';obtain ⟨_,_,_,_,_,_,_,h5⟩:=hops e he;rw [hke] at h5
        refine ⟨_,ht,fun _=>h5.2.1 _ _ _ _ fun x hx=>?_⟩
        obtain ⟨j,b,hj,hpj⟩:=hπ x hx;obtain ⟨e',he',hi',_,b',hk'⟩:=hfin e he dl g hke x hx;obtain ⟨j',hj'⟩:=zwb he' hk';rw [hi'] at hj'
        have e1:=hσ0 j' _ hj'
        have e2:j=σ0 j':=hexn j (σ0 j') _ _ hj e1 rfl
        have e3:=zo7 (b:=mem.length) (fun i j x y hx hy he=>zdf hni hx hy he) hj'
        dsimp only at e3;rw [e3]
        show ρ' (π x.1)=ρ' (σ (mem.length+j'))
        rw [hpj,hσr,e2]
     ·obtain ⟨u,hu,huv⟩:=ha.get t v h2
      exact ⟨u,by rw [hoth t fun e he _=>h1 e he];exact hu,fun hn=>(huv hn).trans (zaz hagF (htm t v h2))⟩
    have htmF:TmOk (bagMem bag mem).length (bagTm (hOf (mks bag) mem.length) bag mem.length tm):=fun t v hv=>by
     rcases zeh _ bag mem.length tm t v hnd hv with ⟨e,he,rfl,hm⟩|⟨h1,h2⟩
     ·obtain ⟨_,_,_,_,_,_,_,h5⟩:=hops e he
      cases hke:e.k with
      | mk g b =>
        rw [hke] at hm h5;obtain ⟨j,hj,rfl⟩:=hm;refine h5.2.2.1 _ _ ?_
        have:=(List.getElem?_eq_some_iff.1 hj).1
        unfold bagMem;simp;exact this
      | call f args u =>
        rw [hke] at hm h5;subst hm;exact h5.2.2.1.mono hlF
      | fin dl g =>
        rw [hke] at hm h5;subst hm
        refine h5.2.2.1 _ _ fun x hx=>?_
        obtain ⟨e',he',hi',_,b',hk'⟩:=hfin e he dl g hke x hx;obtain ⟨j',hj'⟩:=zwb he' hk';rw [hi'] at hj'
        have e3:=zo7 (b:=mem.length) (fun i j x y hx hy he=>zdf hni hx hy he) hj'
        dsimp only at e3;rw [e3]
        have:=(List.getElem?_eq_some_iff.1 hj').1
        unfold bagMem;simp;exact this
     ·exact (htm t v h2).mono hlF
    have hle:listedOf l0 (idxs bag++ls0)=listedOf l0 ls:=zwh l0 fun i=>by simpa using (hall i).symm
    have:=h (ρ' ∘ σ) w' a' (fun h p hp=>by rw [←hagF h (Nat.lt_of_lt_of_le (List.getElem?_eq_some_iff.1 hp).1 hl)];exact hρ h p hp) (Nat.le_trans hl hlF) HF htmF hRelF
     (zbh ⟨a1,Nat.le_trans a2 hlF,a3,fun h hh hw=>by
      unfold bagMem
      rw [List.getElem?_append_left (by omega)]
      exact a4 h hh hw⟩ (zci (tl hit) hlF fun it hi all n0 W m0 ls ord m he=>absurd he (zcu hk it hi all n0 W m0 ls ord m))) l0 hl0 hO (by rw [hle];exact hinv) (by rw [hle];exact zii (by simpa [bagChk] using hchk))
    have hh:=this.2
    rw [hle] at hh
    rw [←zgh (fun h hh=>hagF h (by omega)) (by rw [a1] at a3;exact a3),←za4 hagF fun it hi=>tl hit it hi] at hh
    rw [Nat.zero_add];exact hh
  | succ N ih =>
    intro rem ls a' w' hN hall hchk hinv hnr hsub hP;obtain ⟨ex,ρ',hag,H',hdone,hoth,hdf,hexn,hexr⟩:=hP
    have hre:∃ x l,rem=x::l:=by
     cases rem with
     | nil=>simp at hN
     | cons x l=>exact ⟨x,l,rfl⟩
    obtain ⟨x0,l1,hre⟩:=hre
    rw [show N+1+r2.length=(N+r2.length)+1 by omega]
    have hchk0:=hchk
    rw [hre] at hchk;simp only [bagChk,Bool.and_eq_true] at hchk;rw [←hre] at hchk;obtain ⟨hc1,hc2⟩:=hchk
    refine ⟨fun h0=>(by rw [h0] at hc1;simp at hc1),fun i hi=>?_⟩
    have hc3:=List.all_eq_true.1 hc2 i hi
    simp only [Bool.and_eq_true] at hc3;obtain ⟨⟨hc4,hc5⟩,hc6⟩:=hc3
    have him:i<m:=Nat.le_of_ble_eq_true hc5
    have hir:i∈rem:=by simpa using hc4
    refine ⟨him,?_⟩;obtain ⟨e,he,rfl⟩:=hsub i hir
    have hslot:∀ e'∈bag,e'.i ∉ rem→∃ u,a'.tmps[e'.d]?=some u:=fun e' he' hr'=>by
     have:=hdone e' he' hr'
     cases hk':e'.k with
     | mk v b=>rw [hk'] at this;obtain ⟨j,_,h2⟩:=this;exact ⟨_,h2⟩
     | call f args v=>rw [hk'] at this;exact ⟨_,this⟩
     | fin dl g=>rw [hk'] at this;obtain ⟨π,_,h2⟩:=this;exact ⟨_,h2⟩
    have ha':=qct htm ha hag hslot hoth hdf
    have hle:mem.length≤(mem++ex.map (·.2)).length:=by rw [List.length_append];omega
    have htm':TmOk (mem++ex.map (·.2)).length (fgt (dsts bag) tm):=(zqh _ htm).mono hle
    obtain ⟨o,x,ho,hdst,hw,hwx,⟨u0,hu0⟩,hkind⟩:=hops e he;subst hl0;rw [zak] at ho;obtain ⟨o0,ho0,rfl⟩:=zby ho
    have ho':l0.toArray[e.i]?=some o0:=by simpa using ho0
    have hdst':o0.dst=some e.d:=hdst
    obtain ⟨y0,hy0,_⟩:=ha'.get e.d u0 hu0
    have hyl:=(Array.getElem?_eq_some_iff.1 hy0).1
    have huniq:∀ e'∈bag,e'.i=e.i→e'=e:=fun e' he' hei=>zim hni he' he hei
    have huniqd:∀ e'∈bag,e'.d=e.d→e'=e:=fun e' he' hei=>zim hnd he' he hei
    have hmemE:∀ j,j∈rem.erase e.i↔j≠e.i∧j∈rem:=fun j=>hnr.mem_erase_iff
    have hallE:∀ j,j∈rem.erase e.i++e.i::ls↔j∈idxs bag++ls0:=fun j=>by
     rw [←hall j];simp only [List.mem_append,List.mem_cons,hmemE]
     by_cases hj:j=e.i
     ·subst hj;simp [hir]
     ·simp [hj]
    have hlenE:(rem.erase e.i).length=N:=by rw [List.length_erase_of_mem hir,hN];rfl
    have hsubE:∀ j∈rem.erase e.i,∃ e∈bag,e.i=j:=fun j hj=>hsub j ((hmemE j).1 hj).2
    have hothE:∀ (z:Value) t,(∀ e'∈bag,e'.i ∉ rem.erase e.i→e'.d≠t)→(a'.put (some e.d) z).tmps[t]?=a.tmps[t]?:=fun z t ht=>by
     have h1:=ht e he fun h=>((hmemE _).1 h).1 rfl
     simp only [Act.put];rw [Array.getElem?_setIfInBounds_ne h1]
     exact hoth t fun e' he' hr'=>ht e' he' fun h=>hr' ((hmemE _).1 h).2
    have hputE:∀ z:Value,(a'.put (some e.d) z).tmps[e.d]?=some z:=fun z=>by simp [Act.put,hyl]
    have hputN:∀ (z:Value) e',e'∈bag→e'≠e→(a'.put (some e.d) z).tmps[e'.d]?=a'.tmps[e'.d]?:=fun z e' he' hne'=>by
     simp only [Act.put]
     rw [Array.getElem?_setIfInBounds_ne fun h=>hne' (huniqd e' he' h.symm)]
    unfold wpOp;simp only [ho'];rw [if_pos ((za7 ha' hw).trans hwx)];refine .inl ?_;unfold Oper.wp
    cases hke:e.k with
    | mk v b =>
      rw [hke] at hkind
      obtain ⟨ρ'',w'',xr,hrun,hx,hρ'',H'',hvok,hle',hn0⟩:=zqk (o:=o0) hE.tab H' ha' htm' (Nat.le_trans a2 hle) (hkind.1 (ex.map (·.2)))
      have hfin:S0 ρ W m0 w''∧heldAny E.P .any l0.toArray (cont E.P E.D E.fn R E.L ρ k) (S0 ρ W m0) m (l0.length-m) (N+r2.length) ((listedOf l0 ls).setIfInBounds e.i true) (a'.put o0.dst (concV ρ'' (v (len (mem++ex.map (·.2)))))) w'':=by
       have hag'':∀ h,h<mem.length→ρ h=ρ'' h:=fun h hh=>(hag h hh).trans (hρ'' h (by omega))
       have hme:mem++ex.map (·.2)++[b]=mem++(ex++[(e.i,b)]).map (·.2):=by simp
       rw [hme] at H''
       refine ⟨hS ρ'' _ w'' hag'' H'',ih (rem.erase e.i) (e.i::ls) _ w'' hlenE hallE hc6 (hinv.set hi him) (hnr.erase _) hsubE ⟨ex++[(e.i,b)],ρ'',hag'',H'',fun e' he' hr'=>?_,by rw [hdst'];exact hothE _,by rw [hdst'];exact hdf,fun i j x y hx hy hxy=>?_,fun x hx hr=>?_⟩⟩
       ·by_cases hee:e'=e
        ·subst hee
         rw [hke,hdst']
         refine ⟨ex.length,by simp,?_⟩
         rw [hputE,zaq,List.length_append,List.length_map]
        ·have hnr':e'.i ∉ rem:=fun h=>hr' ((hmemE _).2 ⟨fun hi=>hee (huniq e' he' hi),h⟩)
         have hd':=hdone e' he' hnr'
         rw [hdst',hputN _ e' he' hee]
         cases hk':e'.k with
         | mk v' b' =>
           rw [hk'] at hd';obtain ⟨j,hj,ht⟩:=hd'
           have hjl:=(List.getElem?_eq_some_iff.1 hj).1
           obtain ⟨_,_,_,_,_,_,_,h5⟩:=hops e' he';rw [hk'] at h5
           exact ⟨j,by rw [List.getElem?_append_left hjl];exact hj,ht.trans (congrArg some (h5.2.1 _ _ _ _ (hρ'' _ (by rw [List.length_append,List.length_map];omega))))⟩
         | call f args v' =>
           rw [hk'] at hd';exact hd'
         | fin dl g =>
           rw [hk'] at hd';obtain ⟨π,hπ,ht⟩:=hd';obtain ⟨_,_,_,_,_,_,_,h5⟩:=hops e' he';rw [hk'] at h5
           refine ⟨π,fun x hx=>?_,ht.trans (congrArg some (h5.2.1 _ _ _ _ fun x hx=>?_))⟩
           ·obtain ⟨j,b9,hj,hp⟩:=hπ x hx
            exact ⟨j,b9,by rw [List.getElem?_append_left (List.getElem?_eq_some_iff.1 hj).1];exact hj,hp⟩
           ·obtain ⟨j,b9,hj,hp⟩:=hπ x hx
            have hjl:=(List.getElem?_eq_some_iff.1 hj).1
            rw [hp]
            exact hρ'' _ (by rw [List.length_append,List.length_map];omega)
       ·rcases Nat.lt_or_ge i ex.length with h1|h1<;>rcases Nat.lt_or_ge j ex.length with h2|h2
        ·rw [List.getElem?_append_left h1] at hx
         rw [List.getElem?_append_left h2] at hy;exact hexn i j x y hx hy hxy
        ·rw [List.getElem?_append_left h1] at hx
         rw [List.getElem?_append_right h2] at hy;obtain ⟨h3,rfl⟩:=zel hy
         exact absurd (show x.1∈rem by rw [hxy];exact hir) (hexr x (List.mem_of_getElem? hx))
        ·rw [List.getElem?_append_right h1] at hx
         rw [List.getElem?_append_left h2] at hy;obtain ⟨h3,rfl⟩:=zel hx
         exact absurd (show y.1∈rem by rw [←hxy];exact hir) (hexr y (List.mem_of_getElem? hy))
        ·rw [List.getElem?_append_right h1] at hx
         rw [List.getElem?_append_right h2] at hy;obtain ⟨h3,_⟩:=zel hx;obtain ⟨h4,_⟩:=zel hy;omega
       ·have hr2:=(hmemE _).1 hr
        rcases List.mem_append.1 hx with hx|hx
        ·exact hexr x hx hr2.2
        ·obtain rfl:x=(e.i,b):=by simpa using hx
         exact hr2.1 rfl
      rw [hrun]
      rcases hx with rfl|⟨rfl,hu⟩
      ·exact hfin
      ·rw [hu] at hfin;exact hfin
    | call f args v =>
      rw [hke] at hkind;obtain ⟨hq,hgo,hvok,hcall⟩:=hkind;rw [zll (o:=o0) ha' htm' hq hgo w'];refine (hcall _ ρ' w' H').mono ?_
      rintro e0 w'' ⟨rfl,H''⟩
      refine ⟨hS ρ' _ w'' hag H'',ih (rem.erase e.i) (e.i::ls) _ w'' hlenE hallE hc6 (hinv.set hi him) (hnr.erase _) hsubE ⟨ex,ρ',hag,H'',fun e' he' hr'=>?_,by rw [hdst'];exact hothE _,by rw [hdst'];exact hdf,hexn,fun x hx hr=>hexr x hx ((hmemE _).1 hr).2⟩⟩
      by_cases hee:e'=e
      ·subst hee
       rw [hke,hdst']
       show _=some (concV ρ v)
       rw [hputE,zaz hag hvok]
      ·have hnr':e'.i ∉ rem:=fun h=>hr' ((hmemE _).2 ⟨fun hi=>hee (huniq e' he' hi),h⟩)
       have hd':=hdone e' he' hnr'
       rw [hdst',hputN _ e' he' hee];exact hd'
    | fin dl g =>
      rw [hke] at hkind;obtain ⟨hq,hcg,hgok,hbld⟩:=hkind
      have hun:=qa6 hN hnr hchk0
      have hdeps:∀ x∈dl,∃ e'∈bag,e'.i=x.1∧e'.d=x.2.1∧(∃ b,e'.k=.mk x.2.2 b)∧e'.i ∉ rem:=fun x hx=>by
       obtain ⟨e',he',h1,h2,b',hk'⟩:=hfin e he dl g hke x hx
       refine ⟨e',he',h1,h2,⟨b',hk'⟩,fun hr=>?_⟩
       have hne:e'.i≠e.i:=fun h3=>by
        rw [huniq e' he' h3,hke] at hk'
        cases hk'
       obtain ⟨o',_,hoo,hdd',_⟩:=hops e' he';rw [zak] at hoo;obtain ⟨o1,ho1,rfl⟩:=zby hoo
       have ho1':l0.toArray[e'.i]?=some o1:=by simpa using ho1
       have hbd:=hcb2.1
       unfold bagDep at hbd
       have hb1:=List.all_eq_true.1 hbd e.i (by rw [zfb];exact List.mem_map_of_mem he)
       have hb2:=List.all_eq_true.1 hb1 e'.i (by rw [zfb];exact List.mem_map_of_mem he')
       simp only [ho',ho1'] at hb2
       have hrd:readsOf o0 o1=true:=by
        unfold readsOf
        rw [show o1.dst=some e'.d from hdd']
        have:=hbld x hx
        rw [←h2] at this;exact this
       rw [hrd] at hb2;simp only [Bool.not_true,Bool.false_or] at hb2;obtain ⟨q,hq1,hq2⟩:=Array.any_eq_true'.1 hb2;simp only [Bool.and_eq_true,beq_iff_eq] at hq2
       have hcl:=(hinv.set hi him).closed e.i o0 ho' (by
        rw [Array.getD_eq_getD_getElem?,Array.getElem?_setIfInBounds_self_of_lt (by rw [hinv.size];exact (Array.getElem?_eq_some_iff.1 ho').1)]
        rfl) q hq1 hq2.1
       rw [hq2.2,Array.getD_eq_getD_getElem?,Array.getElem?_setIfInBounds_ne (Ne.symm hne),←Array.getD_eq_getD_getElem?] at hcl
       have h9:=getD_both (hun e'.i hr)
       rw [hcl] at h9
       cases h9
      obtain ⟨π,hπ⟩:∃ π:Nat→Nat,∀ i j b,ex[j]?=some (i,b)→π i=mem.length+j:=by
       refine Classical.axiomOfChoice (r:=fun i y=>∀ j b,ex[j]?=some (i,b)→y=mem.length+j) fun i=>?_
       by_cases hx:∃ (j:Nat) (b:MB),ex[j]?=some (i,b)
       ·obtain ⟨j,b,hj⟩:=hx
        exact ⟨mem.length+j,fun j' b' hj'=>by rw [hexn j j' _ _ hj hj' rfl]⟩
       ·exact ⟨0,fun j b hj=>absurd ⟨j,b,hj⟩ hx⟩
      have hdv:∀ x∈dl,(∃ j b,ex[j]?=some (x.1,b)∧π x.1=mem.length+j)∧a'.tmps[x.2.1]?=some (concV ρ' (x.2.2 (π x.1))):=fun x hx=>by
       obtain ⟨e',he',h1,h2,⟨b',hk'⟩,hr'⟩:=hdeps x hx
       have hd':=hdone e' he' hr'
       rw [hk'] at hd';obtain ⟨j,hj,ht⟩:=hd';rw [h1] at hj;rw [h2] at ht
       have hp:=hπ _ _ _ hj
       exact ⟨⟨j,b',hj,hp⟩,by rw [ht,hp]⟩
      have hrun:=(zfs (o:=o0) (mem:=[]) (w:=w') hE.tab (zh8 ha' fun x hx=>(hdv x hx).2) (zjx htm' fun x hx=>by
       obtain ⟨e',he',h1,h2,⟨b',hk'⟩,hr'⟩:=hdeps x hx;obtain ⟨_,_,_,_,_,_,_,h5⟩:=hops e' he';rw [hk'] at h5;obtain ⟨⟨j,b,hj,hp⟩,_⟩:=hdv x hx
       have hjl:=(List.getElem?_eq_some_iff.1 hj).1
       exact h5.2.2.1 _ _ (by rw [hp,List.length_append,List.length_map];omega)) (by nofun) (hq π) (fun t x h bk _ _ hm=>by simp at hm) ⟨fun h t z n l hb=>by simp at hb,fun h n l hb=>by simp at hb⟩).1
      rw [hrun]
      refine ⟨hS ρ' _ w' hag H',ih (rem.erase e.i) (e.i::ls) _ w' hlenE hallE hc6 (hinv.set hi him) (hnr.erase _) hsubE ⟨ex,ρ',hag,H',fun e' he' hr'=>?_,by rw [hdst'];exact hothE _,by rw [hdst'];exact hdf,hexn,fun x hx hr=>hexr x hx ((hmemE _).1 hr).2⟩⟩
      by_cases hee:e'=e
      ·subst hee
       rw [hke,hdst']
       exact ⟨π,fun x hx=>(hdv x hx).1,hputE _⟩
      ·have hnr':e'.i ∉ rem:=fun h=>hr' ((hmemE _).2 ⟨fun hi=>hee (huniq e' he' hi),h⟩)
       have hd':=hdone e' he' hnr'
       rw [hdst',hputN _ e' he' hee];exact hd'
 have hP0:BagP E bag mem ρ a (idxs bag) a w:=⟨[],ρ,fun _ _=>rfl,by simpa using H,fun e he hn=>absurd (by rw [zfb];exact List.mem_map_of_mem he) hn,fun _ _=>rfl,ha.defers,fun i j x y hx=>by simp at hx,fun x hx=>by cases hx⟩
 refine ⟨hS ρ [] w (fun _ _=>rfl) (by simpa using H),?_⟩
 rw [hlen]
 exact key _ _ ls a w rfl (fun i=>by rw [hls0]) hcb inv (by rw [zfb];exact hni) (fun i hi=>by rw [zfb,List.mem_map] at hi;exact hi) hP0
def noFin:List BE→Bool
 | []=>true
 | e :: l => match e.k with
   | .fin _ _=>false
   | _=>noFin l
theorem zin:∀ {l:List BE} {e:BE} {dl:List (Nat × Nat × (Nat→SV))} {g:(Nat→Nat)→SV},noFin l=true→e∈l→e.k=.fin dl g→False
 | [],_,_,_,_,h,_=>by cases h
 | y :: l, e, dl, g, hn, h, hk => by
   rcases List.mem_cons.1 h with rfl|h
   ·simp [noFin,hk] at hn
   ·cases hy:y.k<;>simp only [noFin,hy] at hn
    ·exact zin hn h hk
    ·exact zin hn h hk
    ·cases hn
theorem zz5 (hE:E.Ok) (bag:List BE) {all:List Oper} {n0:Nat} {W:List Nat} {m0:List MB} {ls:List Nat} {ord:List (Nat × Bool)} {m:Nat} {k:List It} {tm:PT} {mem:List MB} (hsz:Nat.ble (len all) 1000=true) {r2:List (Nat × Bool)} (hne:bag≠[]) (hord:ord=(idxs bag).map (fun i=>(bad i,true))++r2) (hr2:lowB r2=true) (hk:plainK k=true) (hdi:dis (idxs bag)=true) (hdd:dis (dsts bag)=true)
 (hops:∀ e∈bag,e.Ok E all n0 W (dsts bag) tm mem) (h:Good E R ⟨.head all n0 W m0 (idxs bag++ls) r2 m::k,bagTm (hOf (mks bag) mem.length) bag mem.length tm,bagMem bag mem⟩) (hnf:noFin bag=true:=by rfl):Good E R ⟨.head all n0 W m0 ls ord m::k,tm,mem⟩ :=
 zng hE bag hsz hne hord hr2 hk hdi hdd hops (fun e he dl g hk=>(zin hnf he hk).elim) h
theorem zqr {all:List Oper} {n0:Nat} {W:List Nat} {ds:List Nat} {tm:PT} {mem:List MB} {i d:Nat} {t:TypeId} {x y:Operand} {xv:Int} {n:Nat} {l:List Value} {o:Oper} {u:SV} (ho:nth all i=some o) (hd:o.dst=some d) (hg:o.guard=none) (hs:tget (fgt ds tm) d=some u) (hop:o.op=.makeSlice t x y) (hx:ev (fgt ds tm) x=some (.one (.val (.int .i64 xv)))) (hy:ev (fgt ds tm) y=some (.one (.val (.int .i64 xv)))) {ti:TI} (ht:look E.T t=some ti) (hti:Nat.ble 1 ti.esize=true∧Nat.beq (len ti.ezero) ti.esize=true∧valsB ti.ezero=true) (hc:std.cutok xv xv 1000000=true) (hn:std.cutn 0 xv=n) (hl:std.zeros ti.ezero n=l) :
 BE.Ok E all n0 W ds tm mem ⟨i,d,.mk (fun h=>.one (.gsl h n)) (.grow ti.etype ti.esize n l)⟩:=by
 subst hl hn
 refine ⟨o,(true,true),ho,hd,by simp [wantE,hg],rfl,⟨u,hs⟩,fun ex=>?_,fun ρ ρ' h h' e=>by simp [concV,conc1,e],fun h n hn=>hn,fun n=>trivial⟩
 simp only [effE,hop,hx,hy,ht];rw [hti.1,hti.2.1,hti.2.2,hc];rfl
theorem zho {all:List Oper} {n0:Nat} {W:List Nat} {ds:List Nat} {tm:PT} {mem:List MB} {i d:Nat} {t:TypeId} {l:List Value} {o:Oper} {u:SV} (ho:nth all i=some o) (hd:o.dst=some d) (hg:o.guard=none) (hs:tget (fgt ds tm) d=some u) (hop:o.op=.alloc t) {ti:TI} (ht:look E.T t=some ti) (hl:ti.zero=l) :
 BE.Ok E all n0 W ds tm mem ⟨i,d,.mk (fun h=>.one (.ptr h 0 0)) (.own t (vals l))⟩:=by
 refine ⟨o,(true,true),ho,hd,by simp [wantE,hg],rfl,⟨u,hs⟩,fun ex=>by simp [effE,hop,ht,hl],fun ρ ρ' h h' e=>by simp [concV,conc1,e],fun h n hn=>hn,fun n x hx=>?_⟩
 rw [zbg,List.mem_map] at hx;obtain ⟨_,_,rfl⟩:=hx;trivial
theorem zlq {l:List VW} {n n' i:Nat} (h:i<l.length):vwH l n i=vwH l n' i:=by
 unfold vwH;rw [zak,List.getElem?_eq_getElem h]
 cases l[i]<;>rfl
theorem qbe {l:List VW} {n n':Nat}:∀ {x:S1},x.ok l.length→vwS l n x=vwS l n' x
 | .val _,_=>rfl
 | .ptr h _ _,hx=>by simp only [vwS,zlq (n:=n) (n':=n') hx]
 | .slc h _ _ _,hx=>by simp only [vwS,zlq (n:=n) (n':=n') hx]
 | .gsl h _,hx=>by simp only [vwS,zlq (n:=n) (n':=n') hx]
 | .clo g hs, hx => by
   simp only [vwS]
   congr 1
   exact List.map_congr_left fun h hh=>zlq (hx h hh)
 | .gptr h _ _,hx=>by simp only [vwS,zlq (n:=n) (n':=n') hx]
 | .rsl h _,hx=>by simp only [vwS,zlq (n:=n) (n':=n') hx]
 | .rptr h _ _,hx=>by simp only [vwS,zlq (n:=n) (n':=n') hx]
 | .bnd _ h,hx=>by simp only [vwS,zlq (n:=n) (n':=n') hx]
theorem zk6 {l:List VW} {n n':Nat} {x:List S1} (hx:∀ y∈x,y.ok l.length):map1s (vwS l n) x=map1s (vwS l n') x:=by
 rw [za6,za6]
 exact List.map_congr_left fun y hy=>qbe (hx y hy)
theorem qdh {l:List VW} {n n':Nat}:∀ {b:MB},b.ok l.length→mapB (vwS l n) b=mapB (vwS l n') b
 | .own _ _,h=>by simp only [mapB,zk6 (n:=n) (n':=n') h]
 | .ro _,h=>by simp only [mapB,zk6 (n:=n) (n':=n') h]
 | .sym _ _,_=>rfl
 | .rsym _,_=>rfl
 | .mrk _ _,_=>rfl
 | .grow _ _ _ _,_=>rfl
 | .dead,_=>rfl
 | .rs _ _,_=>rfl
 | .obj _,_=>rfl
theorem qaw {l:List VW} {n n':Nat}:∀ {v:SV},v.ok l.length→mapV (vwS l n) v=mapV (vwS l n') v
 | .one _,h=>by simp only [mapV,qbe (n:=n) (n':=n') h]
 | .agg _,h=>by simp only [mapV,zk6 (n:=n) (n':=n') h]
 | .tup x, h => by
   simp only [mapV]
   congr 1
   rw [zcn,zcn]
   refine List.map_congr_left fun y hy=>?_
   have:=h y hy
   cases y with
   | one z=>simp only [mapT,qbe (n:=n) (n':=n') this]
   | agg z=>simp only [mapT,zk6 (n:=n) (n':=n') this]
 | .any,_=>rfl
def allSame:List VW→Bool
 | []=>true
 | .same _::l=>allSame l
 | .rd _::_=>false
theorem zlr {mem ex:List MB} {all:List VW} {n n':Nat}:∀ {l:List VW} {m:List MB},allSame l=true→(∀ b∈m,b.ok all.length)→views mem all n l m→views (mem++ex) all n' l m
 | [],[],_,_,_=>trivial
 | .same h :: l, b :: r, hs, hb, hv => by
   obtain ⟨h1,h2⟩:=hv;rw [zak] at h1
   refine ⟨?_,zlr hs (fun c hc=>hb c (by simp [hc])) h2⟩
   rw [zak,List.getElem?_append_left (List.getElem?_eq_some_iff.1 h1).1,h1,qdh (hb b (by simp))]
 | [],_::_,_,_,hv=>hv.elim
 | .same _::_,[],_,_,hv=>hv.elim
 | .rd _::_,_,hs,_,_=>by cases hs
theorem zhs {mem:List MB} {all:List VW} {n:Nat}:∀ {l:List VW} {m:List MB},views mem all n l m→l.length=m.length
 | [],[],_=>rfl
 | .same _::l,_::m,hv=>by simp [zhs hv.2]
 | .rd _::l,_::m,hv=>by simp [zhs hv.2.2]
 | [],_::_,hv=>hv.elim
 | .same _::_,[],hv=>hv.elim
 | .rd _::_,[],hv=>hv.elim
theorem zxq (vw:List VW) {all:List Oper} {n0:Nat} {W:List Nat} {ds:List Nat} {tm:PT} {mem mem0:List MB} {i d:Nat} {o:Oper} {u:SV} {f:FuncId} {args args0:List SV} {v0 v:SV} (ho:nth all i=some o) (hd:o.dst=some d) (hg:o.guard=none) (hs:tget (fgt ds tm) d=some u) (hq:callE (fgt ds tm) o.op=some (f,args))
 (ht:TriP E.P f args0 mem0 v0) (hargs:args=mapVs (vwS vw mem.length) args0) (hvv:v=mapV (vwS vw mem.length) v0) (hv:views mem vw mem.length vw mem0) (hal:allSame vw=true) (hdi:distinct (sameH vw)=true) (hcl:clM vw mem0=true) (hok:okM1 mem0.length mem0=true) (hca:clA vw args0=true) (hao:okA1 mem0.length args0=true) (hcv:clV vw v0=true) (hvo:okV1 mem0.length v0=true) (hvm:okV1 mem.length v=true):BE.Ok E all n0 W ds tm mem ⟨i,d,.call f args v⟩:=by
 have hl:=zhs hv
 refine ⟨o,(true,true),ho,hd,by simp [wantE,hg],rfl,⟨u,hs⟩,hq,ht.1,zb0 hvm,fun ex ρ w H=>?_⟩
 have hvx:views (mem++ex) vw (mem++ex).length vw mem0:=zlr hal (by rw [hl];exact zaj hok) hv
 have h1:=zcs vw ht hvx hdi hcl (zaj hok) hca (zbc hao) (fun v m hq=>by obtain ⟨rfl,rfl⟩:=hq;exact ⟨hcv,hcl,zdp _⟩) E.w0 E.own ρ w H
 have ha:mapVs (vwS vw (mem++ex).length) args0=args:=by
  rw [hargs,zhj,zhj]
  exact List.map_congr_left fun y hy=>qaw (by rw [hl];exact zbc hao y hy)
 have hvn:mapV (vwS vw (mem++ex).length) v0=v:=by rw [hvv];exact qaw (by rw [hl];exact zb0 hvo)
 rw [ha] at h1;refine h1.mono ?_
 rintro e w' ⟨v',m,ρ',rfl,⟨rfl,rfl⟩,hvok,hle,hρ',H'⟩
 rw [zfe hvx] at H';rw [hvn]
 refine ⟨by rw [zaz hρ' ((zb0 hvm).mono (by simp))],H'.congr fun h hh=>(hρ' h hh).symm⟩
end
end Eng
namespace Eng
section
variable {R:Ending→World→Prop} {w0:World} {own:List Nat} {ps:List (Nat × Nat)} {P:Program} {T:List (TypeId × TI)} {D:Ords} {fn:Func} {L:Nat→Act→World→Prop} {n:Nat} {Q:SV→List MB→Prop}
def TriM (P:Program) (f:FuncId) (args:List SV) (mem:List MB) (v:SV) (m:List MB):Prop:=Tri P f args mem fun u m'=>u=v∧m'=m
theorem zhm (hR:Ends w0 own ps n Q R) (l:List Nat) (M:List MB) {mem:List MB} {v':SV} (hlen:M.length=l.length) (hd:distinct l=true) (hk:keeps n l=true) (hps:ps.length=n) (hat:atR (pi l) mem 0 M) (hok:okM1 M.length M=true) (hle:n≤M.length) (hvok:okV1 M.length v'=true) (hQ:Q v' M) :
 ∀ ρ w,(∀ (h:Nat) p,ps[h]?=some p→ρ h=p)→Sat w0 own ρ mem w→R (.returned (concV ρ (mapV (ren1 (pi l)) v'))) w:=fun ρ w hρ H=>by
 have:=hR v' M (zb0 hvok) hle hQ (ρ ∘ pi l) w (fun h p hp=>by
  show ρ (pi l h)=p
  rw [zit hk h (by rw [←hps];exact (List.getElem?_eq_some_iff.1 hp).1)]
  exact hρ h p hp) (zgm l hlen hd hat (zaj hok) H)
 rwa [←zjc (zej (pi l)) (zb0 hvok)] at this
theorem zfi (hR:Ends w0 own ps n Q R) (l:List Nat) (M:List MB) (hr:fn.results=#[]) {tm:PT} {mem:List MB} (hlen:M.length=l.length) (hd:distinct l=true) (hk:keeps n l=true) (hps:ps.length=n) (hat:atR (pi l) mem 0 M) (hok:okM1 M.length M=true) (hle:n≤M.length) (hQ:Q (.tup []) M):Good ⟨P,T,D,fn,w0,own,ps,L⟩ R ⟨[],tm,mem⟩ :=
 zne hr fun ρ w hρ hS=>zhm hR l M (v':=.tup []) hlen hd hk hps hat hok hle rfl hQ ρ w hρ hS
theorem zcr (hR:Ends w0 own ps n Q R) (hE:Env.Ok ⟨P,T,D,fn,w0,own,ps,L⟩) (l:List Nat) (M:List MB) {r:ResultVar} (hr:fn.results=#[r]) {k:List It} {tm:PT} {mem:List MB} {v:SV} (v':SV) (hv:resE std T tm mem r=some v) (hvv:v=mapV (ren1 (pi l)) v') (hlen:M.length=l.length) (hd:distinct l=true) (hk:keeps n l=true) (hps:ps.length=n) (hat:atR (pi l) mem 0 M) (hok:okM1 M.length M=true) (hle:n≤M.length) (hvok:okV1 M.length v'=true) (hQ:Q v' M):Good ⟨P,T,D,fn,w0,own,ps,L⟩ R ⟨.ret::k,tm,mem⟩ :=
 znd hE hr hv fun ρ w hρ hS=>by rw [hvv];exact zhm hR l M hlen hd hk hps hat hok hle hvok hQ ρ w hρ hS
theorem zhy (hR:Ends w0 own ps n Q R) (hE:Env.Ok ⟨P,T,D,fn,w0,own,ps,L⟩) (l:List Nat) (M:List MB) {r s:ResultVar} (hr:fn.results=#[r,s]) {k:List It} {tm:PT} {mem:List MB} {v u:SV} (x:SV) (hv:resE std T tm mem r=some v) (hu:resE std T tm mem s=some u) (h1:(tvO v).sv=v) (h2:(tvO u).sv=u) (hvv:SV.tup [tvO v,tvO u]=mapV (ren1 (pi l)) x) (hlen:M.length=l.length) (hd:distinct l=true) (hk:keeps n l=true) (hps:ps.length=n) (hat:atR (pi l) mem 0 M) (hok:okM1 M.length M=true) (hle:n≤M.length) (hvok:okV1 M.length x=true) (hQ:Q x M):Good ⟨P,T,D,fn,w0,own,ps,L⟩ R ⟨.ret::k,tm,mem⟩ :=
 zj6 hE hr hv hu h1 h2 fun ρ w hρ hS=>by rw [hvv];exact zhm hR l M hlen hd hk hps hat hok hle hvok hQ ρ w hρ hS
theorem kR1 (hR:Ends w0 own ps n Q R) (l:List Nat) {M:List MB} {r:ResultVar} {k:List It} {tm:PT} {mem:List MB} {v v':SV} (hQ:Q v' M) (hr:fn.results=#[r]:=by rfl) (hv:resE std T tm mem r=some v:=by rfl) (hvv:v=mapV (ren1 (pi l)) v':=by rfl) (hlen:M.length=l.length:=by rfl) (hd:distinct l=true:=by rfl) (hk:keeps n l=true:=by rfl) (hps:ps.length=n:=by exact hpl) (hat:atR (pi l) mem 0 M:=by ((repeat' (first|exact .inl rfl|exact .inr rfl|exact trivial|refine ⟨?_,?_⟩));first|done|fail)) (hok:okM1 M.length M=true:=by rfl) (hle:n≤M.length:=by first|exact Nat.le_of_ble_eq_true rfl|simp) (hvok:okV1 M.length v'=true:=by rfl) (hE:Env.Ok ⟨P,T,D,fn,w0,own,ps,L⟩:=by exact ⟨kE.1,kE.2⟩):Good ⟨P,T,D,fn,w0,own,ps,L⟩ R ⟨.ret::k,tm,mem⟩:=zcr hR hE l M hr v' hv hvv hlen hd hk hps hat hok hle hvok hQ
theorem kR2 (hR:Ends w0 own ps n Q R) (l:List Nat) {M:List MB} {r s:ResultVar} {k:List It} {tm:PT} {mem:List MB} {v u:SV} {x:SV} (hQ:Q x M) (hr:fn.results=#[r,s]:=by rfl) (hv:resE std T tm mem r=some v:=by rfl) (hu:resE std T tm mem s=some u:=by rfl) (h1:(tvO v).sv=v:=by rfl) (h2:(tvO u).sv=u:=by rfl) (hvv:SV.tup [tvO v,tvO u]=mapV (ren1 (pi l)) x:=by rfl) (hlen:M.length=l.length:=by rfl) (hd:distinct l=true:=by rfl) (hk:keeps n l=true:=by rfl) (hps:ps.length=n:=by exact hpl) (hat:atR (pi l) mem 0 M:=by ((repeat' (first|exact .inl rfl|exact .inr rfl|exact trivial|refine ⟨?_,?_⟩));first|done|fail)) (hok:okM1 M.length M=true:=by rfl) (hle:n≤M.length:=by first|exact Nat.le_of_ble_eq_true rfl|simp) (hvok:okV1 M.length x=true:=by rfl) (hE:Env.Ok ⟨P,T,D,fn,w0,own,ps,L⟩:=by exact ⟨kE.1,kE.2⟩):Good ⟨P,T,D,fn,w0,own,ps,L⟩ R ⟨.ret::k,tm,mem⟩:=zhy hR hE l M hr x hv hu h1 h2 hvv hlen hd hk hps hat hok hle hvok hQ
theorem kS1 (hR:Ends w0 own ps n Q R) (h:Nat) (ks l:List Nat) {ι:Type} {m:ι→List MB} (x:ι) {M:(Nat→Prop)→List MB} {r:ResultVar} {k:List It} {tm:PT} {mem:List MB} {v v':SV} (hQ:∀ W',Q v' (M W')) (hm:∀ W',(M W')[l.idxOf h]?=some (.obj (packO m W')):=by exact fun _=>rfl) (hk:softK k=true:=by exact rfl) (hpl':(m x).length=ks.length+1:=by exact rfl) (hpd:distinct (h::ks)=true:=by exact rfl) (hpa:atL (pi (h::ks)) mem 0 (m x):=by ((repeat' (first|exact trivial|exact rfl|refine ⟨?_,?_⟩));first|done|fail)) (hpo:okM1 (m x).length (m x)=true:=by exact rfl) (hr:fn.results=#[r]:=by rfl) (hv:∀ W,resE std T tm (setAt (kills mem ks) h (.obj (packO m W))) r=some v:=by exact fun _=>rfl) (hvv:v=mapV (ren1 (pi l)) v':=by rfl) (hlen:∀ W,(M W).length=l.length:=by exact fun _=>rfl) (hd:distinct l=true:=by rfl) (hkp:keeps n l=true:=by rfl) (hps:ps.length=n:=by exact hpl) (hat:∀ W,atR (pi l) (setAt (kills mem ks) h (.obj (packO m W))) 0 (M W):=by (intro _;(repeat' (first|exact .inl rfl|exact .inr rfl|exact trivial|refine ⟨?_,?_⟩));first|done|fail)) (hok:∀ W,okM1 (M W).length (M W)=true:=by exact fun _=>rfl) (hle:∀ W,n≤(M W).length:=by exact fun _=>Nat.le_of_ble_eq_true rfl) (hvok:∀ W,okV1 (M W).length v'=true:=by exact fun _=>rfl) (hE:Env.Ok ⟨P,T,D,fn,w0,own,ps,L⟩:=by exact ⟨kE.1,kE.2⟩):Good ⟨P,T,D,fn,w0,own,ps,L⟩ R ⟨.ret::k,tm,mem⟩:=kK h ks x (fun W=>kR1 hR l (hQ W) hr (hv W) hvv (hlen W) hd hkp hps (hat W) (hok W) (hle W) (hvok W) hE) hk hpl' hpd hpa hpo
theorem kS2 (hR:Ends w0 own ps n Q R) (h:Nat) (ks l:List Nat) {ι:Type} {m:ι→List MB} (x:ι) {M:(Nat→Prop)→List MB} {r s:ResultVar} {k:List It} {tm:PT} {mem:List MB} {v u v':SV} (hQ:∀ W',Q v' (M W')) (hm:∀ W',(M W')[l.idxOf h]?=some (.obj (packO m W')):=by exact fun _=>rfl) (hk:softK k=true:=by exact rfl) (hpl':(m x).length=ks.length+1:=by exact rfl) (hpd:distinct (h::ks)=true:=by exact rfl) (hpa:atL (pi (h::ks)) mem 0 (m x):=by ((repeat' (first|exact trivial|exact rfl|refine ⟨?_,?_⟩));first|done|fail)) (hpo:okM1 (m x).length (m x)=true:=by exact rfl) (hr:fn.results=#[r,s]:=by rfl) (hv:∀ W,resE std T tm (setAt (kills mem ks) h (.obj (packO m W))) r=some v:=by exact fun _=>rfl) (hu:∀ W,resE std T tm (setAt (kills mem ks) h (.obj (packO m W))) s=some u:=by exact fun _=>rfl) (h1:(tvO v).sv=v:=by rfl) (h2:(tvO u).sv=u:=by rfl) (hvv:SV.tup [tvO v,tvO u]=mapV (ren1 (pi l)) v':=by rfl) (hlen:∀ W,(M W).length=l.length:=by exact fun _=>rfl) (hd:distinct l=true:=by rfl) (hkp:keeps n l=true:=by rfl) (hps:ps.length=n:=by exact hpl) (hat:∀ W,atR (pi l) (setAt (kills mem ks) h (.obj (packO m W))) 0 (M W):=by (intro _;(repeat' (first|exact .inl rfl|exact .inr rfl|exact trivial|refine ⟨?_,?_⟩));first|done|fail)) (hok:∀ W,okM1 (M W).length (M W)=true:=by exact fun _=>rfl) (hle:∀ W,n≤(M W).length:=by exact fun _=>Nat.le_of_ble_eq_true rfl) (hvok:∀ W,okV1 (M W).length v'=true:=by exact fun _=>rfl) (hE:Env.Ok ⟨P,T,D,fn,w0,own,ps,L⟩:=by exact ⟨kE.1,kE.2⟩):Good ⟨P,T,D,fn,w0,own,ps,L⟩ R ⟨.ret::k,tm,mem⟩:=kK h ks x (fun W=>kR2 hR l (hQ W) hr (hv W) (hu W) h1 h2 hvv (hlen W) hd hkp hps (hat W) (hok W) (hle W) (hvok W) hE) hk hpl' hpd hpa hpo
end
section
variable {E:Env} {R:Ending→World→Prop}
theorem ziw (vw:List VW) {f:FuncId} {args args0:List SV} {dst:Option Tmp} {k:List It} {tm:PT} {mem mem0 M:List MB} {v0:SV} (ht:TriM E.P f args0 mem0 v0 M) (hargs:args=mapVs (vwS vw mem.length) args0) (hv:views mem vw mem.length vw mem0) (hd:distinct (sameH vw)=true) (hcl:clM vw mem0=true) (hok:okM1 mem0.length mem0=true) (hca:clA vw args0=true) (hao:okA1 mem0.length args0=true)
 (hcv:clV vw v0=true) (hcm:clM vw M=true) (hrd:rdSame M mem0) (hk:headW (sameH vw) k=true) (h:Good E R ⟨k,putE tm dst (mapV (vwS vw mem.length) v0),upd vw mem.length mem vw M⟩):Good E R ⟨.call f args dst::k,tm,mem⟩ :=
 zhl vw ht hargs hv hd hcl (zaj hok) hca (zbc hao) (fun v m hq=>by obtain ⟨rfl,rfl⟩:=hq;exact ⟨hcv,hcm,hrd⟩) hk fun v m hq=>by obtain ⟨rfl,rfl⟩:=hq;exact h
theorem kM (vw:List VW) {f:FuncId} {args args0:List SV} {dst:Option Tmp} {k:List It} {tm:PT} {mem mem0 M:List MB} {v0:SV} (ht:TriM E.P f args0 mem0 v0 M) (h:Good E R ⟨k,putE tm dst (mapV (vwS vw mem.length) v0),upd vw mem.length mem vw M⟩) (hargs:args=mapVs (vwS vw mem.length) args0:=by rfl) (hv:views mem vw mem.length vw mem0:=by ((repeat' (first|exact trivial|exact rfl|exact ⟨rfl,Nat.le_refl _,[],(List.append_nil _).symm⟩|refine ⟨?_,?_⟩));first|done|fail)) (hd:distinct (sameH vw)=true:=by exact rfl) (hcl:clM vw mem0=true:=by exact rfl) (hok:okM1 mem0.length mem0=true:=by exact rfl) (hca:clA vw args0=true:=by exact rfl) (hao:okA1 mem0.length args0=true:=by exact rfl)
 (hcv:clV vw v0=true:=by exact rfl) (hcm:clM vw M=true:=by exact rfl) (hrd:rdSame M mem0:=by ((repeat' (first|exact .inl rfl|exact .inr rfl|exact trivial|exact rfl|refine ⟨?_,?_⟩));first|done|fail)) (hk:headW (sameH vw) k=true:=by exact rfl):Good E R ⟨.call f args dst::k,tm,mem⟩:=ziw vw ht hargs hv hd hcl hok hca hao hcv hcm hrd hk h
theorem nM (vw:List VW) {f:FuncId} {args args0:List SV} {dst:Option Tmp} {k:List It} {tm:PT} {mem mem0 M:List MB} {v0:SV} {A:Ar} (ht:TriM E.P f args0 mem0 v0 M) (h:Good E R (run A E.T E.D 400 ⟨k,putE tm dst (mapV (vwS vw mem.length) v0),upd vw mem.length mem vw M⟩)) (hargs:args=mapVs (vwS vw mem.length) args0:=by rfl) (hv:views mem vw mem.length vw mem0:=by ((repeat' (first|exact trivial|exact rfl|exact ⟨rfl,Nat.le_refl _,[],(List.append_nil _).symm⟩|refine ⟨?_,?_⟩));first|done|fail)) (hd:distinct (sameH vw)=true:=by exact rfl) (hcl:clM vw mem0=true:=by exact rfl) (hok:okM1 mem0.length mem0=true:=by exact rfl) (hca:clA vw args0=true:=by exact rfl) (hao:okA1 mem0.length args0=true:=by exact rfl)
 (hcv:clV vw v0=true:=by exact rfl) (hcm:clM vw M=true:=by exact rfl) (hrd:rdSame M mem0:=by ((repeat' (first|exact .inl rfl|exact .inr rfl|exact trivial|exact rfl|refine ⟨?_,?_⟩));first|done|fail)) (hk:headW (sameH vw) k=true:=by exact rfl) (hE:E.Ok:=by exact ⟨kE.1,kE.2⟩) (hA:A=std:=by first|exact hA.out|exact hA):Good E R ⟨.call f args dst::k,tm,mem⟩:=kM vw ht (kN h hE hA) hargs hv hd hcl hok hca hao hcv hcm hrd hk
end
end Eng
namespace Eng
def voidO:AO where
 W _:=False
 Φ _ _:=True
 stable:=fun _ _ _ _ h=>h
 low:=fun _ _ _ _ h=>h.elim
def poolO (L:List AO):AO where
 W i:=∃ o∈L,o.W i
 Φ _ w:=(∃ ps:List (Nat × Nat),∀ (i:Nat) o,L[i]?=some o→∃ p,ps[i]?=some p∧o.Φ p w)∧∀ (i j:Nat) o o',L[i]?=some o→L[j]?=some o'→i≠j→∀ k,o.W k→¬ o'.W k
 stable:=fun _ _ _ hw ⟨⟨ps,h⟩,hd⟩=>⟨⟨ps,fun i o ho=>by
  obtain ⟨p,h1,h2⟩:=h i o ho
  exact ⟨p,h1,o.stable p _ _ (fun k hk=>hw k ⟨o,List.mem_of_getElem? ho,hk⟩) h2⟩⟩,hd⟩
 low:=fun _ _ _ ⟨⟨ps,h⟩,_⟩ ⟨o,ho,hi⟩=>by
  obtain ⟨i,hi'⟩:=List.getElem?_of_mem ho;obtain ⟨p,_,h2⟩:=h i o hi';exact o.low p _ _ h2 hi
section
variable {E:Env} {R:Ending→World→Prop}
theorem zfd {k:List It} {tm2:PT} {mem mem2:List MB} (l:List Nat) (hk:headW l k=true) (hsame:∀ j,j<mem.length→inL l j=false→mem2[j]?=mem[j]?) {ρ ρ':Nat→Nat × Nat} {w:World} {a:Act} (hρ:∀ (h:Nat) p,E.ρ0[h]?=some p→ρ h=p) (hl:E.ρ0.length≤mem.length) (hle:mem.length≤mem2.length) (hag:∀ h,h<mem.length→ρ h=ρ' h) (H2:Sat E.w0 E.own ρ' mem2 w) (htm:TmOk mem2.length tm2) (ha:Rel ρ' tm2 a) (hit:∀ it∈k,it.ok mem) (hG:Good E R ⟨k,tm2,mem2⟩):cont E.P E.D E.fn R E.L ρ k .normal a w:=by
 have:=hG ρ' w a (fun h p hp=>by rw [←hag h (Nat.lt_of_lt_of_le (List.getElem?_eq_some_iff.1 hp).1 hl)];exact hρ h p hp) (Nat.le_trans hl hle) H2 htm ha (zci hit hle fun it hi all n0 W m0 ls ord m he h hh hw=>by
  have hok:=hit it hi
  rw [he] at hok;exact hsame h (Nat.lt_of_lt_of_le hh hok.2.1) (zeu hk it hi all n0 W m0 ls ord m he h hh hw))
 rw [←za4 hag hit] at this;exact this
theorem zmy {w0:World} {own:List Nat} {ρ:Nat→Nat × Nat} {mem:List MB} {w:World} (H:Sat w0 own ρ mem w) {e i:Nat} {L:List AO} {o:AO} (hb:mem[e]?=some (.obj (poolO L))) (hi:L[i]?=some o) {b:MB} {K:Nat × Nat→Prop}
 (hΦ:∀ p w,o.Φ p w→(∀ ρ,BlkAt ρ w p b)∧(∀ i,b.wf p i→o.W i)∧b.rd=false∧(∀ n,b.ok n)∧K p) :
 ∃ ρ':Nat→Nat × Nat,(∀ h,h<mem.length→ρ h=ρ' h)∧K (ρ' mem.length)∧Sat w0 own ρ' (mem.set e (.obj (poolO (L.set i voidO)))++[b]) w:=by
 have helt:=(List.getElem?_eq_some_iff.1 hb).1
 obtain ⟨⟨ps,hps⟩,hdis⟩:=H.blk e _ hb;obtain ⟨p,hp,ho⟩:=hps i o hi;obtain ⟨h1,h2,h3,h4,h5⟩:=hΦ p w ho
 let ρ':Nat→Nat × Nat:=fun h=>if h<mem.length then ρ h else p
 have hag:∀ h,h<mem.length→ρ h=ρ' h:=fun h hh=>by simp [ρ',hh]
 have hn:ρ' mem.length=p:=by simp [ρ']
 have hsub:∀ k,(poolO (L.set i voidO)).W k→(poolO L).W k∧¬ o.W k:=fun k ⟨o',ho',hk⟩=>by
  obtain ⟨j,hj⟩:=List.getElem?_of_mem ho'
  by_cases hji:i=j
  ·subst hji
   rw [List.getElem?_set_self (List.getElem?_eq_some_iff.1 hi).1] at hj;obtain rfl:=Option.some.inj hj;exact hk.elim
  ·rw [List.getElem?_set_ne hji] at hj
   exact ⟨⟨o',List.mem_of_getElem? hj,hk⟩,fun hk2=>hdis i j o o' hi hj hji k hk2 hk⟩
 have split:∀ (k:Nat) (c:MB),(mem.set e (.obj (poolO (L.set i voidO)))++[b])[k]?=some c→(k=e∧c=.obj (poolO (L.set i voidO)))∨(k=mem.length∧c=b)∨(k<mem.length∧k≠e∧mem[k]?=some c):=fun k c hc=>by
  rcases Nat.lt_trichotomy k mem.length with hk|hk|hk
  ·rw [List.getElem?_append_left (by simpa using hk)] at hc
   by_cases hke:e=k
   ·subst hke
    rw [List.getElem?_set_self hk] at hc;exact .inl ⟨rfl,(Option.some.inj hc).symm⟩
   ·rw [List.getElem?_set_ne hke] at hc
    exact .inr (.inr ⟨hk,Ne.symm hke,hc⟩)
  ·subst hk
   rw [List.getElem?_append_right (by simp)] at hc
   simp at hc;exact .inr (.inl ⟨rfl,hc.symm⟩)
  ·rw [List.getElem?_eq_none (by simp;omega)] at hc;cases hc
 refine ⟨ρ',hag,by rw [hn];exact h5,?_⟩
 refine H.move (fun k=>k=e) (fun k=>k=e∨k=mem.length) id (fun k=>(poolO L).W k) (fun k hk=>.inl ⟨e,_,rfl,hb,hk⟩) (Gr.refl _ _) (fun _ _ _ _ h=>h) (fun c hc=>?_) (fun k c hc hnw=>?_) (fun k c hc hnw=>?_) (fun k j c d hk hj hc hd hne q hw=>?_)
 ·obtain ⟨k,hk⟩:=List.getElem?_of_mem hc
  rcases split k c hk with ⟨_,rfl⟩|⟨_,rfl⟩|⟨_,_,hm⟩
  ·trivial
  ·exact h4 _
  ·exact (H.ok c (List.mem_of_getElem? hm)).mono (by simp)
 ·rcases split k c hc with ⟨rfl,_⟩|⟨rfl,_⟩|⟨h6,h7,h8⟩
  ·exact absurd (.inl rfl) hnw
  ·exact absurd (.inr rfl) hnw
  ·refine ⟨h7,c,h8,fun i hi=>by rw [←hag k h6] at hi;exact hi,fun i hi=>by rw [←hag k h6] at hi;exact hi,fun hk=>?_⟩
   rw [←hag k h6];exact hk.congr hag (H.ok c (List.mem_of_getElem? h8))
 ·rcases split k c hc with ⟨rfl,rfl⟩|⟨rfl,rfl⟩|⟨h6,h7,_⟩
  ·refine ⟨⟨⟨ps,fun j o' ho'=>?_⟩,fun j1 j2 o1 o2 e1 e2 hne k hk1 hk2=>?_⟩,fun j hj=>(hsub j hj).1,fun j hj=>(Bool.false_ne_true hj.1).elim⟩
   ·by_cases hji:i=j
    ·subst hji
     rw [List.getElem?_set_self (List.getElem?_eq_some_iff.1 hi).1] at ho';obtain rfl:=Option.some.inj ho';exact ⟨p,hp,trivial⟩
    ·rw [List.getElem?_set_ne hji] at ho'
     exact hps j o' ho'
   ·have key:∀ (j:Nat) (o':AO),(L.set i voidO)[j]?=some o'→o'.W k→L[j]?=some o':=fun j o' h9 h10=>by
     by_cases hji:i=j
     ·subst hji
      rw [List.getElem?_set_self (List.getElem?_eq_some_iff.1 hi).1] at h9;obtain rfl:=Option.some.inj h9;exact h10.elim
     ·rwa [List.getElem?_set_ne hji] at h9
    exact hdis j1 j2 o1 o2 (key _ _ e1 hk1) (key _ _ e2 hk2) hne k hk1 hk2
  ·rw [hn]
   exact ⟨h1 ρ',fun j hj=>⟨o,List.mem_of_getElem? hi,h2 j hj⟩,fun j hj=>(Bool.false_ne_true (h3.symm.trans hj.1)).elim⟩
  ·rcases hnw with h9|h9
   ·exact absurd h9 h7
   ·omega
 ·rcases split k c hc with ⟨rfl,rfl⟩|⟨rfl,rfl⟩|⟨h6,h7,_⟩
  ·rcases split j d hd with ⟨h9,_⟩|⟨rfl,rfl⟩|⟨h6,h7,_⟩
   ·exact absurd h9.symm hne
   ·rw [hn]
    exact ⟨fun h9=>(hsub q hw).2 (h2 q h9),fun h9=>Bool.false_ne_true (h3.symm.trans h9.1)⟩
   ·rcases hj with h9|h9
    ·exact absurd h9 h7
    ·omega
  ·rw [hn] at hw
   rcases split j d hd with ⟨rfl,rfl⟩|⟨h9,_⟩|⟨h6,h7,_⟩
   ·exact ⟨fun h9=>(hsub q h9).2 (h2 q hw),fun h9=>Bool.false_ne_true h9.1⟩
   ·exact absurd h9.symm hne
   ·rcases hj with h9|h9
    ·exact absurd h9 h7
    ·omega
  ·rcases hk with h9|h9
   ·exact absurd h9 h7
   ·omega
theorem zws (e i:Nat) {L:List AO} {o:AO} (b:MB) (K:Nat × Nat→Prop) {f:FuncId} {args:List SV} (args':List SV) {dst:Option Tmp} {k:List It} {tm:PT} {mem:List MB} (hb:nth mem e=some (.obj (poolO L))) (hi:L[i]?=some o)
 (hΦ:∀ p w,o.Φ p w→(∀ ρ,BlkAt ρ w p b)∧(∀ i,b.wf p i→o.W i)∧b.rd=false∧(∀ n,b.ok n)∧K p) (hk:headW [e] k=true) (hok:okA1 (mem.length+1) args'=true) (hargs:∀ ρ:Nat→Nat × Nat,K (ρ mem.length)→args.map (concV ρ)=args'.map (concV ρ))
 (hg:Good E R ⟨.call f args' dst::k,tm,setAt mem e (.obj (poolO (L.set i voidO)))++[b]⟩):Good E R ⟨.call f args dst::k,tm,mem⟩:=by
 rw [zak] at hb;rw [zaf] at hg;intro ρ w a hρ hl H htm ha hit;dsimp only at hl H htm ha hit;obtain ⟨ρ',hag,hK,H'⟩:=zmy H hb hi hΦ
 have hsz:(mem.set e (.obj (poolO (L.set i voidO)))++[b]).length=mem.length+1:=by simp
 have hcc:args.map (concV ρ)=args'.map (concV ρ'):=by
  rw [←hargs ρ' hK]
  exact List.map_congr_left fun v hv=>zaz hag (hd hit v hv)
 have:=hg ρ' w a (fun h p hp=>by rw [←hag h (Nat.lt_of_lt_of_le (List.getElem?_eq_some_iff.1 hp).1 hl)];exact hρ h p hp) (by rw [hsz];exact Nat.le_succ_of_le hl) H' (htm.mono (by rw [hsz];exact Nat.le_succ _)) (ha.ext htm hag) (fun it hi'=>by
  rcases List.mem_cons.1 hi' with rfl|hi'
  ·intro v hv
   rw [hsz];exact zbc hok v hv
  ·refine zci (tl hit) (by rw [hsz];exact Nat.le_succ _) (fun it hi all n0 W m0 ls ord m he h hh hw=>?_) it hi'
   have hok:=tl hit it hi
   rw [he] at hok
   have hx:=zeu hk it hi all n0 W m0 ls ord m he h hh hw
   have hne:e≠h:=fun h9=>by subst h9;simp [inL] at hx
   have:h<mem.length:=Nat.lt_of_lt_of_le hh hok.2.1
   rw [List.getElem?_append_left (by simpa using this),List.getElem?_set_ne hne])
 refine ⟨this.1,?_⟩;rw [hcc];refine this.2.mono ?_
 rintro x w' ⟨v,rfl,hc⟩
 refine ⟨v,rfl,?_⟩
 rwa [za4 hag (tl hit)]
theorem zmz {w0:World} {own:List Nat} {ρ:Nat→Nat × Nat} {mem:List MB} {w:World} (H:Sat w0 own ρ mem w) {e t i:Nat} {L:List AO} {o:AO} (hb:mem[e]?=some (.obj (poolO L))) (ht:mem[t]?=some (.obj o)) (hnet:e≠t) (hi:L[i]?=some voidO) :
 Sat w0 own ρ ((mem.set e (.obj (poolO (L.set i o)))).set t .dead) w:=by
 have helt:=(List.getElem?_eq_some_iff.1 hb).1
 have htlt:=(List.getElem?_eq_some_iff.1 ht).1
 have hil:=(List.getElem?_eq_some_iff.1 hi).1
 obtain ⟨⟨ps,hps⟩,hdis⟩:=H.blk e _ hb
 have ho:o.Φ (ρ t) w:=H.blk t _ ht
 obtain ⟨p0,hp0,_⟩:=hps i _ hi
 have hap:=H.apt e t _ _ hb ht hnet
 have getL:∀ (j:Nat) (o':AO),(L.set i o)[j]?=some o'→(j=i∧o'=o)∨(j≠i∧L[j]?=some o'):=fun j o' h=>by
  by_cases hji:i=j
  ·subst hji
   rw [List.getElem?_set_self hil] at h;exact .inl ⟨rfl,(Option.some.inj h).symm⟩
  ·rw [List.getElem?_set_ne hji] at h
   exact .inr ⟨Ne.symm hji,h⟩
 have hW:∀ k,(poolO (L.set i o)).W k→(poolO L).W k∨o.W k:=fun k ⟨o',ho',hk⟩=>by
  obtain ⟨j,hj⟩:=List.getElem?_of_mem ho'
  rcases getL j o' hj with ⟨_,rfl⟩|⟨_,h⟩
  ·exact .inr hk
  ·exact .inl ⟨o',List.mem_of_getElem? h,hk⟩
 have split:∀ (k:Nat) (c:MB),((mem.set e (.obj (poolO (L.set i o)))).set t .dead)[k]?=some c→(k=e∧c=.obj (poolO (L.set i o)))∨(k=t∧c=.dead)∨(k≠e∧k≠t∧mem[k]?=some c):=fun k c hc=>by
  by_cases hkt:t=k
  ·subst hkt
   rw [List.getElem?_set_self (by simpa using htlt)] at hc
   exact .inr (.inl ⟨rfl,(Option.some.inj hc).symm⟩)
  ·rw [List.getElem?_set_ne hkt] at hc
   by_cases hke:e=k
   ·subst hke
    rw [List.getElem?_set_self helt] at hc;exact .inl ⟨rfl,(Option.some.inj hc).symm⟩
   ·rw [List.getElem?_set_ne hke] at hc
    exact .inr (.inr ⟨Ne.symm hke,Ne.symm hkt,hc⟩)
 refine H.move (fun k=>k=e∨k=t) (fun k=>k=e∨k=t) id (fun k=>(poolO L).W k∨o.W k) (fun k hk=>.inl (hk.elim (fun h=>⟨e,_,.inl rfl,hb,h⟩) fun h=>⟨t,_,.inr rfl,ht,h⟩)) (Gr.refl _ _) (fun _ _ _ _ h=>h) (fun c hc=>?_) (fun k c hc hnw=>?_) (fun k c hc hnw=>?_) (fun k j c d hk hj hc hd hne q hw=>?_)
 ·obtain ⟨k,hk⟩:=List.getElem?_of_mem hc
  rcases split k c hk with ⟨_,rfl⟩|⟨_,rfl⟩|⟨_,_,hm⟩
  ·trivial
  ·trivial
  ·exact (H.ok c (List.mem_of_getElem? hm)).mono (by simp)
 ·rcases split k c hc with ⟨rfl,_⟩|⟨rfl,_⟩|⟨h6,h7,h8⟩
  ·exact absurd (.inl rfl) hnw
  ·exact absurd (.inr rfl) hnw
  ·exact ⟨fun h=>h.elim h6 h7,c,h8,fun i hi=>hi,fun i hi=>hi,fun hk=>hk⟩
 ·rcases split k c hc with ⟨rfl,rfl⟩|⟨rfl,rfl⟩|⟨h6,h7,_⟩
  ·refine ⟨⟨⟨ps.set i (ρ t),fun j o' ho'=>?_⟩,fun j1 j2 o1 o2 e1 e2 hne k hk1 hk2=>?_⟩,fun j hj=>hW j hj,fun j hj=>(Bool.false_ne_true hj.1).elim⟩
   ·rcases getL j o' ho' with ⟨rfl,rfl⟩|⟨h8,h9⟩
    ·exact ⟨ρ t,by rw [List.getElem?_set_self (List.getElem?_eq_some_iff.1 hp0).1],ho⟩
    ·obtain ⟨p,h10,h11⟩:=hps j o' h9
     exact ⟨p,by rw [List.getElem?_set_ne (Ne.symm h8)];exact h10,h11⟩
   ·rcases getL j1 o1 e1 with ⟨rfl,rfl⟩|⟨h8,h9⟩<;>rcases getL j2 o2 e2 with ⟨h10,rfl⟩|⟨h10,h11⟩
    ·exact hne h10.symm
    ·exact (hap k ⟨o2,List.mem_of_getElem? h11,hk2⟩).1 hk1
    ·exact (hap k ⟨o1,List.mem_of_getElem? h9,hk1⟩).1 hk2
    ·exact hdis j1 j2 o1 o2 h9 h11 hne k hk1 hk2
  ·exact ⟨trivial,fun j hj=>(Bool.false_ne_true hj.1).elim,fun j hj=>(Bool.false_ne_true hj.1).elim⟩
  ·exact (hnw.elim (fun h=>absurd h h6) fun h=>absurd h h7)
 ·rcases split k c hc with ⟨rfl,rfl⟩|⟨rfl,rfl⟩|⟨h6,h7,_⟩
  ·rcases split j d hd with ⟨h9,_⟩|⟨rfl,rfl⟩|⟨h6,h7,_⟩
   ·exact absurd h9.symm hne
   ·exact ⟨fun h9=>Bool.false_ne_true h9.1,fun h9=>Bool.false_ne_true h9.1⟩
   ·exact (hj.elim (fun h=>absurd h h6) fun h=>absurd h h7)
  ·cases hw.1
  ·exact (hk.elim (fun h=>absurd h h6) fun h=>absurd h h7)
theorem zw2 (e t i:Nat) {L:List AO} {o:AO} {k:List It} {tm:PT} {mem:List MB} (hb:nth mem e=some (.obj (poolO L))) (ht:nth mem t=some (.obj o)) (hne:Nat.beq e t=false) (hi:L[i]?=some voidO) (hk:headW [e,t] k=true)
 (hg:Good E R ⟨k,tm,setAt (setAt mem e (.obj (poolO (L.set i o)))) t .dead⟩):Good E R ⟨k,tm,mem⟩:=by
 rw [zak] at hb ht;rw [zaf,zaf] at hg;intro ρ w a hρ hl H htm ha hit
 have hne':e≠t:=fun h=>by subst h;rw [Nat.beq_refl] at hne;cases hne
 refine zfd [e,t] hk (fun j hj hn=>?_) hρ hl (by simp) (fun _ _=>rfl) (zmz H hb ht hne' hi) (htm.mono (by simp)) ha hit hg
 have h1:e≠j:=fun h=>by subst h;simp [inL] at hn
 have h2:t≠j:=fun h=>by subst h;simp [inL] at hn
 rw [List.getElem?_set_ne h2,List.getElem?_set_ne h1]
theorem qcj (e:Nat) {ι:Type} {b:MB} (b':ι→MB) {k:List It} {tm:PT} {mem:List MB} (hb:nth mem e=some b) (h:∀ ρ p w,BlkAt ρ w p b→∃ x,BlkAt ρ w p (b' x)∧(∀ i,(b' x).wf p i→b.wf p i)∧(b' x).rd=false∧∀ n,(b' x).ok n) (hk:headW [e] k=true)
 (hg:∀ x,Good E R ⟨k,tm,setAt mem e (b' x)⟩):Good E R ⟨k,tm,mem⟩:=by
 rw [zak] at hb;intro ρ w a hρ hl H htm ha hit
 have helt:=(List.getElem?_eq_some_iff.1 hb).1
 obtain ⟨x,h1,h2,h3,h4⟩:=h ρ _ w (H.blk e b hb)
 have hg:=hg x
 rw [zaf] at hg
 have split:∀ (k:Nat) (c:MB),(mem.set e (b' x))[k]?=some c→(k=e∧c=b' x)∨(k≠e∧mem[k]?=some c):=fun k c hc=>by
  by_cases hke:e=k
  ·subst hke
   rw [List.getElem?_set_self helt] at hc;exact .inl ⟨rfl,(Option.some.inj hc).symm⟩
  ·rw [List.getElem?_set_ne hke] at hc
   exact .inr ⟨Ne.symm hke,hc⟩
 refine zfd [e] hk (fun j hj hn=>?_) hρ hl (by simp) (fun _ _=>rfl) ?_ (htm.mono (by simp)) ha hit hg
 ·have h5:e≠j:=fun h=>by subst h;simp [inL] at hn
  rw [List.getElem?_set_ne h5]
 ·refine H.move (fun k=>k=e) (fun k=>k=e) id (fun i=>b.wf (ρ e) i) (fun k hk=>.inl ⟨e,b,rfl,hb,hk⟩) (Gr.refl _ _) (fun _ _ _ _ h=>h) (fun c hc=>?_) (fun k c hc hnw=>?_) (fun k c hc hnw=>?_) (fun k j c d hk hj hc hd hne q hw=>absurd (hk.trans hj.symm) hne)
  ·obtain ⟨k,hk⟩:=List.getElem?_of_mem hc
   rcases split k c hk with ⟨_,rfl⟩|⟨_,hm⟩
   ·exact h4 _
   ·exact (H.ok c (List.mem_of_getElem? hm)).mono (by simp)
  ·rcases split k c hc with ⟨rfl,_⟩|⟨h6,h7⟩
   ·exact absurd rfl hnw
   ·exact ⟨h6,c,h7,fun _ h=>h,fun _ h=>h,fun h=>h⟩
  ·subst hnw
   rcases split k c hc with ⟨_,rfl⟩|⟨h6,_⟩
   ·exact ⟨h1,h2,fun i hi=>(Bool.false_ne_true (h3.symm.trans hi.1)).elim⟩
   ·exact absurd rfl h6
theorem zr7 (e t:Nat) {L L':List AO} {k:List It} {tm:PT} {mem:List MB} (hb:nth mem e=some (.obj (poolO L))) (ht:nth mem t=some (.obj (poolO L'))) (hnet:Nat.beq e t=false) (hk:headW [e,t] k=true)
 (hg:Good E R ⟨k,tm,setAt (setAt mem e (.obj (poolO (L++L')))) t .dead⟩):Good E R ⟨k,tm,mem⟩:=by
 rw [zak] at hb ht;rw [zaf,zaf] at hg;intro ρ w a hρ hl H htm ha hit
 have hne':e≠t:=fun h=>by subst h;rw [Nat.beq_refl] at hnet;cases hnet
 have helt:=(List.getElem?_eq_some_iff.1 hb).1
 have htlt:=(List.getElem?_eq_some_iff.1 ht).1
 obtain ⟨⟨ps,hps⟩,hdis⟩:=H.blk e _ hb;obtain ⟨⟨qs,hqs⟩,hdis'⟩:=H.blk t _ ht
 have hap:=H.apt e t _ _ hb ht hne'
 have split:∀ (k:Nat) (c:MB),((mem.set e (.obj (poolO (L++L')))).set t .dead)[k]?=some c→(k=e∧c=.obj (poolO (L++L')))∨(k=t∧c=.dead)∨(k≠e∧k≠t∧mem[k]?=some c):=fun k c hc=>by
  by_cases hkt:t=k
  ·subst hkt
   rw [List.getElem?_set_self (by simpa using htlt)] at hc
   exact .inr (.inl ⟨rfl,(Option.some.inj hc).symm⟩)
  ·rw [List.getElem?_set_ne hkt] at hc
   by_cases hke:e=k
   ·subst hke
    rw [List.getElem?_set_self helt] at hc;exact .inl ⟨rfl,(Option.some.inj hc).symm⟩
   ·rw [List.getElem?_set_ne hke] at hc
    exact .inr (.inr ⟨Ne.symm hke,Ne.symm hkt,hc⟩)
 have getL:∀ (j:Nat) (o:AO),(L++L')[j]?=some o→(j<L.length∧L[j]?=some o)∨(L.length≤j∧L'[j-L.length]?=some o):=fun j o h=>by
  rcases Nat.lt_or_ge j L.length with h1|h1
  ·rw [List.getElem?_append_left h1] at h;exact .inl ⟨h1,h⟩
  ·rw [List.getElem?_append_right h1] at h;exact .inr ⟨h1,h⟩
 refine zfd [e,t] hk (fun j hj hn=>?_) hρ hl (by simp) (fun _ _=>rfl) ?_ (htm.mono (by simp)) ha hit hg
 ·have h1:e≠j:=fun h=>by subst h;simp [inL] at hn
  have h2:t≠j:=fun h=>by subst h;simp [inL] at hn
  rw [List.getElem?_set_ne h2,List.getElem?_set_ne h1]
 refine H.move (fun k=>k=e∨k=t) (fun k=>k=e∨k=t) id (fun k=>(poolO L).W k∨(poolO L').W k) (fun k hk=>.inl (hk.elim (fun h=>⟨e,_,.inl rfl,hb,h⟩) fun h=>⟨t,_,.inr rfl,ht,h⟩)) (Gr.refl _ _) (fun _ _ _ _ h=>h) (fun c hc=>?_) (fun k c hc hnw=>?_) (fun k c hc hnw=>?_) (fun k j c d hk hj hc hd hne q hw=>?_)
 ·obtain ⟨k,hk⟩:=List.getElem?_of_mem hc
  rcases split k c hk with ⟨_,rfl⟩|⟨_,rfl⟩|⟨_,_,hm⟩
  ·trivial
  ·trivial
  ·exact (H.ok c (List.mem_of_getElem? hm)).mono (by simp)
 ·rcases split k c hc with ⟨rfl,_⟩|⟨rfl,_⟩|⟨h6,h7,h8⟩
  ·exact absurd (.inl rfl) hnw
  ·exact absurd (.inr rfl) hnw
  ·exact ⟨fun h=>h.elim h6 h7,c,h8,fun i hi=>hi,fun i hi=>hi,fun hk=>hk⟩
 ·rcases split k c hc with ⟨rfl,rfl⟩|⟨rfl,rfl⟩|⟨h6,h7,_⟩
  ·refine ⟨⟨⟨(List.range (L++L').length).map fun j=>if j<L.length then ps.getD j (0,0) else qs.getD (j-L.length) (0,0),fun j o' ho'=>?_⟩,fun j1 j2 o1 o2 e1 e2 hne k hk1 hk2=>?_⟩,fun j hj=>?_,fun j hj=>(Bool.false_ne_true hj.1).elim⟩
   ·have hjl:=(List.getElem?_eq_some_iff.1 ho').1
    rcases getL j o' ho' with ⟨h8,h9⟩|⟨h8,h9⟩
    ·obtain ⟨p,h10,h11⟩:=hps j o' h9
     exact ⟨p,by simp only [List.getElem?_map,List.getElem?_range hjl,Option.map_some,h8,if_true,List.getD_eq_getElem?_getD,h10,Option.getD_some],h11⟩
    ·obtain ⟨p,h10,h11⟩:=hqs _ o' h9
     have h12:¬ j<L.length:=by omega
     exact ⟨p,by simp only [List.getElem?_map,List.getElem?_range hjl,Option.map_some,h12,if_false,List.getD_eq_getElem?_getD,h10,Option.getD_some],h11⟩
   ·rcases getL j1 o1 e1 with ⟨h8,h9⟩|⟨h8,h9⟩<;>rcases getL j2 o2 e2 with ⟨h10,h11⟩|⟨h10,h11⟩
    ·exact hdis j1 j2 o1 o2 h9 h11 hne k hk1 hk2
    ·exact (hap k ⟨o1,List.mem_of_getElem? h9,hk1⟩).1 ⟨o2,List.mem_of_getElem? h11,hk2⟩
    ·exact (hap k ⟨o2,List.mem_of_getElem? h11,hk2⟩).1 ⟨o1,List.mem_of_getElem? h9,hk1⟩
    ·exact hdis' _ _ o1 o2 h9 h11 (by omega) k hk1 hk2
   ·obtain ⟨o',ho',h8⟩:=hj
    exact (List.mem_append.1 ho').imp (fun h=>⟨o',h,h8⟩) fun h=>⟨o',h,h8⟩
  ·exact ⟨trivial,fun j hj=>(Bool.false_ne_true hj.1).elim,fun j hj=>(Bool.false_ne_true hj.1).elim⟩
  ·exact (hnw.elim (fun h=>absurd h h6) fun h=>absurd h h7)
 ·rcases split k c hc with ⟨rfl,rfl⟩|⟨rfl,rfl⟩|⟨h6,h7,_⟩
  ·rcases split j d hd with ⟨h9,_⟩|⟨rfl,rfl⟩|⟨h6,h7,_⟩
   ·exact absurd h9.symm hne
   ·exact ⟨fun h9=>Bool.false_ne_true h9.1,fun h9=>Bool.false_ne_true h9.1⟩
   ·exact (hj.elim (fun h=>absurd h h6) fun h=>absurd h h7)
  ·cases hw.1
  ·exact (hk.elim (fun h=>absurd h h6) fun h=>absurd h h7)
end
end Eng
end Go.Proofs.YtpigpajgjdcagaaGreat
namespace Go.Proofs.YtpigpajgjdcagaaGreat
open Go.RowKit Eng Go.Lib Go.Shelf
namespace Eng
theorem ztg {P:Program} {f:FuncId} {mem:List MB} {args:List SV} {e:TypeId} {z n:Nat} {l:List Value} (hgo:Goes P f)
 (hc:∀ (w0:World) (own:List Nat) ρ w,Sat w0 own ρ mem w→Calls P f (args.map (concV ρ)).toArray w fun en w'=>∃ v',en=.returned v'∧w'.ownsRow w.heap.size e z v' n l∧(∀ u∈l,u.oneCell'=true)∧Below w.heap.size w w') :
 Tri P f args mem fun v m=>v=.one (.gsl mem.length n)∧m=mem++[.grow e z n l]:=by
 refine ⟨hgo,fun w0 own ρ w H _=>(hc w0 own ρ w H).mono ?_⟩
 rintro en w' ⟨v',rfl,ho,hone,hb⟩
 have ho':w'.ownsRow 0 e z v' n l:=⟨ho.1,ho.2.imp (fun h=>h) fun ⟨g,cap,cur,h1,_,h2⟩=>⟨g,cap,cur,h1,Nat.zero_le _,h2⟩⟩
 obtain ⟨p,hp⟩:=qa0 ho'
 refine ⟨.one (.gsl mem.length n),mem++[.grow e z n l],ext2 ρ mem.length p,?_,⟨rfl,rfl⟩,?_,by simp,fun h hh=>zba hh,?_⟩
 ·simp only [concV,conc1,zay,hp]
 ·show mem.length<_;simp
 ·have H':=H.below hb
  have hsz:∀ g,v'.ownBlock=some g→w0.heap.size≤g∧w.heap.size≤g:=fun g hg=>by
   have:=(ho.lt g hg).1
   exact ⟨Nat.le_trans H.gr.size this,this⟩
  exact H'.addGrow (row:=v'.ownBlock) (World.grownBy.refl w' _) (fun g hg=>⟨.inr (hsz g hg).1,fun j b hj=>⟨fun hw=>by
   have h1:=H.low hj (.inl hw)
   have h2:=(hsz g hg).2
   omega,fun hw=>by
   have h1:=H.low hj (.inr hw)
   have h2:=(hsz g hg).2
   omega⟩⟩) ho' hone (.inl rfl) (fun h hh=>zba hh) (by rw [zay];exact hp)
def CloneAt (P:Program) (f:FuncId) (e:TypeId) (z:Nat):Prop:=Goes P f∧0<z ∧
 (∀ (b off n c:Nat) (news:List Value) (w:World),news.length=n * z→n≤1000000→(∀ j u,news[j]?=some u→w.cell? ⟨b,off+j,none⟩=some u)→(∀ u∈news,u.oneCell'=true) →
  Calls P f #[.slice (some ⟨b,off,none⟩) n c] w fun en w'=>∃ v',en=.returned v'∧w'.ownsRow w.heap.size e z v' n news∧Below w.heap.size w w') ∧
 ∀ (n c:Nat) (w:World),Calls P f #[.slice none n c] w fun en w'=>en=.returned (.slice none 0 0)∧w'=w
theorem zbx {P:Program} {f:FuncId} {e:TypeId} {z:Nat} (h:CloneAt P f e z) {n:Nat} {l:List Value} (hl:l.length=n * z) (hn:n≤1000000):Tri P f [.one (.rsl 0 n)] [.rs n l] fun v m=>v=.one (.gsl 1 n)∧m=[.rs n l,.grow e z n l]:=by
 obtain ⟨hgo,hz,h1,h2⟩:=h
 refine ztg hgo fun w0 own ρ w H=>?_
 obtain ⟨hr,hc,hone⟩:=H.blk 0 (.rs n l) rfl
 by_cases hp:(ρ 0).2=0
 ·have hn0:n=0∧l=[]:=by
   have h0:n=0:=by
    rcases hr with hr|hr
    ·simpa [room,hp,dec] using hr
    ·exact hr.1
   subst h0
   exact ⟨rfl,List.eq_nil_of_length_eq_zero (by simpa using hl)⟩
  obtain ⟨rfl,rfl⟩:=hn0
  have hv:rslV (ρ 0) 0=.slice none 0 0:=by unfold rslV;rw [hp]
  have:=h2 0 0 w
  rw [←hv] at this;refine this.mono ?_
  rintro en w' ⟨rfl,rfl⟩
  exact ⟨_,by rw [hv],⟨by simp,.inl ⟨rfl,rfl⟩⟩,fun u hu=>(by cases hu),Below.refl _ _⟩
 ·have:=h1 (ρ 0).1 (off (ρ 0)) n (room (ρ 0)) l w hl hn hc hone
  rw [←zc3 hp n] at this;refine this.mono ?_
  rintro en w' ⟨v',rfl,ho,hb⟩
  exact ⟨v',rfl,ho,hone,hb⟩
end Eng
def ze0:Go.Shelf.Ren:=⟨fun|41=>114|n=>n,fun|22=>34|23=>134|4=>4|n=>n,fun|n=>n⟩
theorem zcl:Go.Proofs.SlLaysE0.n41 Tryz.prog ze0:={
 mixed:=by kernel_rfl
 f41:=⟨Tryz.f114.name,by decide,Tryz.func114.trans (congrArg some (by kernel_rfl))⟩
 t4:=Tryz.underlying4
 a4:=Tryz.isAgg4
 z4:=Tryz.sizeOf4
 v4:=Tryz.zeroValue4
 t22:=Tryz.underlying34
 a22:=Tryz.isAgg34
 z22:=Tryz.sizeOf34
 v22:=Tryz.zeroValue34 }
theorem zg2:CloneAt Tryz.prog 114 134 12:=by
 obtain ⟨i0,z,hi,hz,hs,hb,hzs⟩:∃ i0 z,Tryz.prog.info? 134=some i0∧i0.zero=some z∧i0.size=12∧i0.bytes≤1000∧z.cells.size=12:=by
  refine ⟨(Tryz.prog.info? 134).get (by decide +kernel),(((Tryz.prog.info? 134).get (by decide +kernel)).zero).get (by decide +kernel),by simp,by simp,by decide +kernel,by decide +kernel,by decide +kernel⟩
 refine ⟨zbe Tryz.func114 (by kernel_rfl) (by kernel_rfl),by decide,fun b off n c news w hl hn hc hone=>?_,fun n c w=>AnyE.slices_Clone_nil zcl n c w⟩
 refine (AnyE.slices_Clone zcl i0 z 12 i0.bytes hi hz hs rfl hzs (by decide) (fun w=>by show (Go.sizeOf 134).run Tryz.prog w=_;simp [Go.sizeOf,typeInfo,hi,hs]) b off n c news w hl (by unfold maxLen;omega) ?_ hc hone).mono ?_
 ·have:=Nat.mul_le_mul hn hb;omega
 ·rintro en w' ⟨v',rfl,ho,_,hb⟩;exact ⟨v',rfl,ho,hb⟩
def zgd:Go.Shelf.Ren:=⟨fun|41=>115|n=>n,fun|22=>35|23=>167|4=>4|n=>n,fun|n=>n⟩
theorem zc7:Go.Proofs.SlLaysE0.n41 Tryz.prog zgd:={
 mixed:=by kernel_rfl
 f41:=⟨Tryz.f115.name,by decide,Tryz.func115.trans (congrArg some (by kernel_rfl))⟩
 t4:=Tryz.underlying4
 a4:=Tryz.isAgg4
 z4:=Tryz.sizeOf4
 v4:=Tryz.zeroValue4
 t22:=Tryz.underlying35
 a22:=Tryz.isAgg35
 z22:=Tryz.sizeOf35
 v22:=Tryz.zeroValue35 }
theorem zjd:CloneAt Tryz.prog 115 167 4:=by
 obtain ⟨i0,z,hi,hz,hs,hb,hzs⟩:∃ i0 z,Tryz.prog.info? 167=some i0∧i0.zero=some z∧i0.size=4∧i0.bytes≤1000∧z.cells.size=4:=by
  refine ⟨(Tryz.prog.info? 167).get (by decide +kernel),(((Tryz.prog.info? 167).get (by decide +kernel)).zero).get (by decide +kernel),by simp,by simp,by decide +kernel,by decide +kernel,by decide +kernel⟩
 refine ⟨zbe Tryz.func115 (by kernel_rfl) (by kernel_rfl),by decide,fun b off n c news w hl hn hc hone=>?_,fun n c w=>AnyE.slices_Clone_nil zc7 n c w⟩
 refine (AnyE.slices_Clone zc7 i0 z 4 i0.bytes hi hz hs rfl hzs (by decide) (fun w=>by show (Go.sizeOf 167).run Tryz.prog w=_;simp [Go.sizeOf,typeInfo,hi,hs]) b off n c news w hl (by unfold maxLen;omega) ?_ hc hone).mono ?_
 ·have:=Nat.mul_le_mul hn hb;omega
 ·rintro en w' ⟨v',rfl,ho,_,hb⟩;exact ⟨v',rfl,ho,hb⟩
def zli:Go.Shelf.Ren:=⟨fun|41=>162|n=>n,fun|22=>28|23=>75|4=>4|n=>n,fun|n=>n⟩
theorem zgb:Go.Proofs.SlLaysE0.n41 Tryz.prog zli:={
 mixed:=by kernel_rfl
 f41:=⟨Tryz.f162.name,by decide,Tryz.func162.trans (congrArg some (by kernel_rfl))⟩
 t4:=Tryz.underlying4
 a4:=Tryz.isAgg4
 z4:=Tryz.sizeOf4
 v4:=Tryz.zeroValue4
 t22:=Tryz.underlying28
 a22:=Tryz.isAgg28
 z22:=Tryz.sizeOf28
 v22:=Tryz.zeroValue28 }
theorem zsj:CloneAt Tryz.prog 162 75 1:=by
 obtain ⟨i0,z,hi,hz,hs,hb,hzs⟩:∃ i0 z,Tryz.prog.info? 75=some i0∧i0.zero=some z∧i0.size=1∧i0.bytes≤1000∧z.cells.size=1:=by
  refine ⟨(Tryz.prog.info? 75).get (by decide +kernel),(((Tryz.prog.info? 75).get (by decide +kernel)).zero).get (by decide +kernel),by simp,by simp,by decide +kernel,by decide +kernel,by decide +kernel⟩
 refine ⟨zbe Tryz.func162 (by kernel_rfl) (by kernel_rfl),by decide,fun b off n c news w hl hn hc hone=>?_,fun n c w=>AnyE.slices_Clone_nil zgb n c w⟩
 refine (AnyE.slices_Clone zgb i0 z 1 i0.bytes hi hz hs rfl hzs (by decide) (fun w=>by show (Go.sizeOf 75).run Tryz.prog w=_;simp [Go.sizeOf,typeInfo,hi,hs]) b off n c news w hl (by unfold maxLen;omega) ?_ hc hone).mono ?_
 ·have:=Nat.mul_le_mul hn hb;omega
 ·rintro en w' ⟨v',rfl,ho,_,hb⟩;exact ⟨v',rfl,ho,hb⟩
def zlj:Go.Shelf.Ren:=⟨fun|41=>163|n=>n,fun|22=>29|23=>137|4=>4|n=>n,fun|n=>n⟩
theorem zgc:Go.Proofs.SlLaysE0.n41 Tryz.prog zlj:={
 mixed:=by kernel_rfl
 f41:=⟨Tryz.f163.name,by decide,Tryz.func163.trans (congrArg some (by kernel_rfl))⟩
 t4:=Tryz.underlying4
 a4:=Tryz.isAgg4
 z4:=Tryz.sizeOf4
 v4:=Tryz.zeroValue4
 t22:=Tryz.underlying29
 a22:=Tryz.isAgg29
 z22:=Tryz.sizeOf29
 v22:=Tryz.zeroValue29 }
theorem zsk:CloneAt Tryz.prog 163 137 2:=by
 obtain ⟨i0,z,hi,hz,hs,hb,hzs⟩:∃ i0 z,Tryz.prog.info? 137=some i0∧i0.zero=some z∧i0.size=2∧i0.bytes≤1000∧z.cells.size=2:=by
  refine ⟨(Tryz.prog.info? 137).get (by decide +kernel),(((Tryz.prog.info? 137).get (by decide +kernel)).zero).get (by decide +kernel),by simp,by simp,by decide +kernel,by decide +kernel,by decide +kernel⟩
 refine ⟨zbe Tryz.func163 (by kernel_rfl) (by kernel_rfl),by decide,fun b off n c news w hl hn hc hone=>?_,fun n c w=>AnyE.slices_Clone_nil zgc n c w⟩
 refine (AnyE.slices_Clone zgc i0 z 2 i0.bytes hi hz hs rfl hzs (by decide) (fun w=>by show (Go.sizeOf 137).run Tryz.prog w=_;simp [Go.sizeOf,typeInfo,hi,hs]) b off n c news w hl (by unfold maxLen;omega) ?_ hc hone).mono ?_
 ·have:=Nat.mul_le_mul hn hb;omega
 ·rintro en w' ⟨v',rfl,ho,_,hb⟩;exact ⟨v',rfl,ho,hb⟩
def zje:Go.Shelf.Ren:=⟨fun|41=>164|n=>n,fun|22=>30|23=>143|4=>4|n=>n,fun|n=>n⟩
theorem zeg:Go.Proofs.SlLaysE0.n41 Tryz.prog zje:={
 mixed:=by kernel_rfl
 f41:=⟨Tryz.f164.name,by decide,Tryz.func164.trans (congrArg some (by kernel_rfl))⟩
 t4:=Tryz.underlying4
 a4:=Tryz.isAgg4
 z4:=Tryz.sizeOf4
 v4:=Tryz.zeroValue4
 t22:=Tryz.underlying30
 a22:=Tryz.isAgg30
 z22:=Tryz.sizeOf30
 v22:=Tryz.zeroValue30 }
theorem zns:CloneAt Tryz.prog 164 143 7:=by
 obtain ⟨i0,z,hi,hz,hs,hb,hzs⟩:∃ i0 z,Tryz.prog.info? 143=some i0∧i0.zero=some z∧i0.size=7∧i0.bytes≤1000∧z.cells.size=7:=by
  refine ⟨(Tryz.prog.info? 143).get (by decide +kernel),(((Tryz.prog.info? 143).get (by decide +kernel)).zero).get (by decide +kernel),by simp,by simp,by decide +kernel,by decide +kernel,by decide +kernel⟩
 refine ⟨zbe Tryz.func164 (by kernel_rfl) (by kernel_rfl),by decide,fun b off n c news w hl hn hc hone=>?_,fun n c w=>AnyE.slices_Clone_nil zeg n c w⟩
 refine (AnyE.slices_Clone zeg i0 z 7 i0.bytes hi hz hs rfl hzs (by decide) (fun w=>by show (Go.sizeOf 143).run Tryz.prog w=_;simp [Go.sizeOf,typeInfo,hi,hs]) b off n c news w hl (by unfold maxLen;omega) ?_ hc hone).mono ?_
 ·have:=Nat.mul_le_mul hn hb;omega
 ·rintro en w' ⟨v',rfl,ho,_,hb⟩;exact ⟨v',rfl,ho,hb⟩
def zhb:Go.Shelf.Ren:=⟨fun|41=>165|n=>n,fun|22=>31|23=>141|4=>4|n=>n,fun|n=>n⟩
theorem zdu:Go.Proofs.SlLaysE0.n41 Tryz.prog zhb:={
 mixed:=by kernel_rfl
 f41:=⟨Tryz.f165.name,by decide,Tryz.func165.trans (congrArg some (by kernel_rfl))⟩
 t4:=Tryz.underlying4
 a4:=Tryz.isAgg4
 z4:=Tryz.sizeOf4
 v4:=Tryz.zeroValue4
 t22:=Tryz.underlying31
 a22:=Tryz.isAgg31
 z22:=Tryz.sizeOf31
 v22:=Tryz.zeroValue31 }
theorem zlh:CloneAt Tryz.prog 165 141 2:=by
 obtain ⟨i0,z,hi,hz,hs,hb,hzs⟩:∃ i0 z,Tryz.prog.info? 141=some i0∧i0.zero=some z∧i0.size=2∧i0.bytes≤1000∧z.cells.size=2:=by
  refine ⟨(Tryz.prog.info? 141).get (by decide +kernel),(((Tryz.prog.info? 141).get (by decide +kernel)).zero).get (by decide +kernel),by simp,by simp,by decide +kernel,by decide +kernel,by decide +kernel⟩
 refine ⟨zbe Tryz.func165 (by kernel_rfl) (by kernel_rfl),by decide,fun b off n c news w hl hn hc hone=>?_,fun n c w=>AnyE.slices_Clone_nil zdu n c w⟩
 refine (AnyE.slices_Clone zdu i0 z 2 i0.bytes hi hz hs rfl hzs (by decide) (fun w=>by show (Go.sizeOf 141).run Tryz.prog w=_;simp [Go.sizeOf,typeInfo,hi,hs]) b off n c news w hl (by unfold maxLen;omega) ?_ hc hone).mono ?_
 ·have:=Nat.mul_le_mul hn hb;omega
 ·rintro en w' ⟨v',rfl,ho,_,hb⟩;exact ⟨v',rfl,ho,hb⟩
def znq:Go.Shelf.Ren:=⟨fun|41=>166|n=>n,fun|22=>22|23=>3|4=>4|n=>n,fun|n=>n⟩
theorem zg8:Go.Proofs.SlLaysE0.n41 Tryz.prog znq:={
 mixed:=by kernel_rfl
 f41:=⟨Tryz.f166.name,by decide,Tryz.func166.trans (congrArg some (by kernel_rfl))⟩
 t4:=Tryz.underlying4
 a4:=Tryz.isAgg4
 z4:=Tryz.sizeOf4
 v4:=Tryz.zeroValue4
 t22:=Tryz.underlying22
 a22:=Tryz.isAgg22
 z22:=Tryz.sizeOf22
 v22:=Tryz.zeroValue22 }
theorem znr:CloneAt Tryz.prog 166 3 1:=by
 obtain ⟨i0,z,hi,hz,hs,hb,hzs⟩:∃ i0 z,Tryz.prog.info? 3=some i0∧i0.zero=some z∧i0.size=1∧i0.bytes≤1000∧z.cells.size=1:=by
  refine ⟨(Tryz.prog.info? 3).get (by decide +kernel),(((Tryz.prog.info? 3).get (by decide +kernel)).zero).get (by decide +kernel),by simp,by simp,by decide +kernel,by decide +kernel,by decide +kernel⟩
 refine ⟨zbe Tryz.func166 (by kernel_rfl) (by kernel_rfl),by decide,fun b off n c news w hl hn hc hone=>?_,fun n c w=>AnyE.slices_Clone_nil zg8 n c w⟩
 refine (AnyE.slices_Clone zg8 i0 z 1 i0.bytes hi hz hs rfl hzs (by decide) (fun w=>by show (Go.sizeOf 3).run Tryz.prog w=_;simp [Go.sizeOf,typeInfo,hi,hs]) b off n c news w hl (by unfold maxLen;omega) ?_ hc hone).mono ?_
 ·have:=Nat.mul_le_mul hn hb;omega
 ·rintro en w' ⟨v',rfl,ho,_,hb⟩;exact ⟨v',rfl,ho,hb⟩
def zjl:Go.Shelf.Ren:=⟨fun|41=>198|n=>n,fun|22=>82|23=>45|4=>4|n=>n,fun|n=>n⟩
theorem ze2:Go.Proofs.SlLaysE0.n41 Tryz.prog zjl:={
 mixed:=by kernel_rfl
 f41:=⟨Tryz.f198.name,by decide,Tryz.func198.trans (congrArg some (by kernel_rfl))⟩
 t4:=Tryz.underlying4
 a4:=Tryz.isAgg4
 z4:=Tryz.sizeOf4
 v4:=Tryz.zeroValue4
 t22:=Tryz.underlying82
 a22:=Tryz.isAgg82
 z22:=Tryz.sizeOf82
 v22:=Tryz.zeroValue82 }
theorem zpg:CloneAt Tryz.prog 198 45 9:=by
 obtain ⟨i0,z,hi,hz,hs,hb,hzs⟩:∃ i0 z,Tryz.prog.info? 45=some i0∧i0.zero=some z∧i0.size=9∧i0.bytes≤1000∧z.cells.size=9:=by
  refine ⟨(Tryz.prog.info? 45).get (by decide +kernel),(((Tryz.prog.info? 45).get (by decide +kernel)).zero).get (by decide +kernel),by simp,by simp,by decide +kernel,by decide +kernel,by decide +kernel⟩
 refine ⟨zbe Tryz.func198 (by kernel_rfl) (by kernel_rfl),by decide,fun b off n c news w hl hn hc hone=>?_,fun n c w=>AnyE.slices_Clone_nil ze2 n c w⟩
 refine (AnyE.slices_Clone ze2 i0 z 9 i0.bytes hi hz hs rfl hzs (by decide) (fun w=>by show (Go.sizeOf 45).run Tryz.prog w=_;simp [Go.sizeOf,typeInfo,hi,hs]) b off n c news w hl (by unfold maxLen;omega) ?_ hc hone).mono ?_
 ·have:=Nat.mul_le_mul hn hb;omega
 ·rintro en w' ⟨v',rfl,ho,_,hb⟩;exact ⟨v',rfl,ho,hb⟩
end Go.Proofs.YtpigpajgjdcagaaGreat
