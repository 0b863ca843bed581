/- Parts. -/
import Derived.Test.YtpigpajgjdcagaaGreatUd
set_option linter.unusedSimpArgs false
set_option linter.unusedVariables false
set_option maxRecDepth 100000
set_option maxHeartbeats 60000000
namespace Go.Proofs.YtpigpajgjdcagaaGreat
open Go.RowKit
namespace Eng
def pi (l:List Nat) (h:Nat):Nat:=match nth l h with|some k=>k|none=>h
def ren1 (f:Nat→Nat):S1→S1
 | .val v=>.val v
 | .ptr h b o=>.ptr (f h) b o
 | .slc h b n c=>.slc (f h) b n c
 | .gsl h n=>.gsl (f h) n
 | .clo g hs=>.clo g (hs.map f)
 | .gptr h b o=>.gptr (f h) b o
 | .rsl h n=>.rsl (f h) n
 | .rptr h b o=>.rptr (f h) b o
 | .bnd g h=>.bnd g (f h)
def map1s (g:S1→S1):List S1→List S1
 | []=>[]
 | x::l=>g x::map1s g l
def mapT (g:S1→S1):TV→TV
 | .one x=>.one (g x)
 | .agg l=>.agg (map1s g l)
def mapTs (g:S1→S1):List TV→List TV
 | []=>[]
 | x::l=>mapT g x::mapTs g l
def mapV (g:S1→S1):SV→SV
 | .one x=>.one (g x)
 | .agg l=>.agg (map1s g l)
 | .tup l=>.tup (mapTs g l)
 | .any=>.any
def mapP (g:S1→S1):PT→PT
 | .nil=>.nil
 | .node v l r=>.node (match v with|some v=>some (mapV g v)|none=>none) (mapP g l) (mapP g r)
def mapB (g:S1→S1):MB→MB
 | .own t l=>.own t (map1s g l)
 | .ro l=>.ro (map1s g l)
 | b=>b
def mapBs (g:S1→S1):List MB→List MB
 | []=>[]
 | b::l=>mapB g b::mapBs g l
abbrev renP (f:Nat→Nat):=mapP (ren1 f)
abbrev renB (f:Nat→Nat):=mapB (ren1 f)
theorem za6 (g:S1→S1):∀ l:List S1,map1s g l=l.map g
 | []=>rfl
 | x::l=>by simp [map1s,za6 g l]
theorem zcn (g:S1→S1):∀ l:List TV,mapTs g l=l.map (mapT g)
 | []=>rfl
 | x::l=>by simp [mapTs,zcn g l]
theorem zbq (g:S1→S1):∀ l:List MB,mapBs g l=l.map (mapB g)
 | []=>rfl
 | x::l=>by simp [mapBs,zbq g l]
section
variable {ρ ρ':Nat→Nat × Nat} {g:S1→S1} {n:Nat}
def Subs (ρ ρ':Nat→Nat × Nat) (g:S1→S1) (n:Nat):Prop:=∀ x:S1,x.ok n→conc1 ρ (g x)=conc1 ρ' x
theorem zez (hg:Subs ρ ρ' g n) {l:List S1} (hl:∀ x∈l,x.ok n):(map1s g l).map (conc1 ρ)=l.map (conc1 ρ'):=by
 rw [za6,List.map_map]
 exact List.map_congr_left fun x hx=>hg x (hl x hx)
theorem zxj (hg:Subs ρ ρ' g n):∀ {x:TV},x.ok n→concT ρ (mapT g x)=concT ρ' x
 | .one x,h=>hg x h
 | .agg l,h=>by simp only [mapT,concT,zez hg h]
theorem zjc (hg:Subs ρ ρ' g n):∀ {x:SV},x.ok n→concV ρ (mapV g x)=concV ρ' x
 | .one x,h=>hg x h
 | .agg l,h=>by simp only [mapV,concV,zez hg h]
 | .tup l, h => by
   simp only [mapV,concV,zcn,List.map_map]
   rw [List.map_congr_left fun x hx=>show (concT ρ ∘ mapT g) x=concT ρ' x from zxj hg (h x hx)]
 | .any,_=>rfl
theorem zc0:∀ (p:PT) (t:Nat),tget (mapP g p) t=(tget p t).map (mapV g)
 | .nil,t=>by simp [mapP,tget]
 | .node v l r,0=>by cases v<;>simp [mapP,tget]
 | .node v l r, t + 1 => by
   simp only [mapP,tget]
   cases Nat.beq (t % 2) 0
   ·exact zc0 r _
   ·exact zc0 l _
theorem zze (hg:Subs ρ ρ' g n) {p:PT} (hp:TmOk n p) {a:Act} (h:Rel ρ (mapP g p) a):Rel ρ' p a :=
 ⟨h.defers,fun t v hv=>by
  obtain ⟨u,hu,hne⟩:=h.get t (mapV g v) (by rw [zc0,hv];rfl)
  refine ⟨u,hu,fun hn=>?_⟩
  rw [hne (by cases v<;>simp_all [mapV]),zjc hg (hp t v hv)]⟩
theorem zfr (hg:Subs ρ ρ' g n) {p:PT} (hp:TmOk n p) {a:Act} (h:Rel ρ' p a):Rel ρ (mapP g p) a :=
 ⟨h.defers,fun t v hv=>by
  rw [zc0,Option.map_eq_some_iff] at hv;obtain ⟨v0,hv0,rfl⟩:=hv;obtain ⟨u,hu,hne⟩:=h.get t v0 hv0
  refine ⟨u,hu,fun hn=>?_⟩
  rw [hne (by rintro rfl;exact hn rfl),zjc hg (hp t v0 hv0)]⟩
theorem zg3 (hg:Subs ρ ρ' g n) {w:World} {p:Nat × Nat}:∀ {b:MB},b.ok n→BlkAt ρ w p (mapB g b)→BlkAt ρ' w p b
 | .own t l,hb,h=>⟨h.1,by rw [←zez hg hb];exact h.2⟩
 | .sym _ _,_,h=>h
 | .rsym _,_,h=>h
 | .mrk _ _,_,h=>h
 | .ro l, hb, h => fun j x hx => by
   rw [←hg x (hb x (List.mem_of_getElem? hx))]
   exact h j (g x) (by rw [za6];simp [hx])
 | .grow _ _ _ _,_,h=>h
 | .dead,_,h=>h
 | .rs _ _,_,h=>h
 | .obj _,_,h=>h
theorem zcw (hg:Subs ρ ρ' g n) {w:World} {p:Nat × Nat}:∀ {b:MB},b.ok n→BlkAt ρ' w p b→BlkAt ρ w p (mapB g b)
 | .own t l,hb,h=>⟨h.1,by rw [zez hg hb];exact h.2⟩
 | .sym _ _,_,h=>h
 | .rsym _,_,h=>h
 | .mrk _ _,_,h=>h
 | .ro l, hb, h => fun j y hy => by
   rw [za6,List.getElem?_map,Option.map_eq_some_iff] at hy;obtain ⟨x,hx,rfl⟩:=hy;rw [hg x (hb x (List.mem_of_getElem? hx))];exact h j x hx
 | .grow _ _ _ _,_,h=>h
 | .dead,_,h=>h
 | .rs _ _,_,h=>h
 | .obj _,_,h=>h
theorem qc8:∀ {b:MB},(mapB g b).rd=b.rd
 | .own _ _=>rfl
 | .sym _ _=>rfl
 | .rsym _=>rfl
 | .mrk _ _=>rfl
 | .ro _=>rfl
 | .grow _ _ _ _=>rfl
 | .dead=>rfl
 | .rs _ _=>rfl
 | .obj _=>rfl
theorem zbt {p:Nat × Nat} {i:Nat}:∀ {b:MB},(mapB g b).wf p i↔b.wf p i
 | .own _ _=>Iff.rfl
 | .sym _ _=>Iff.rfl
 | .rsym _=>Iff.rfl
 | .mrk _ _=>Iff.rfl
 | .ro _=>Iff.rfl
 | .grow _ _ _ _=>Iff.rfl
 | .dead=>Iff.rfl
 | .rs _ _=>Iff.rfl
 | .obj _=>Iff.rfl
theorem zd2 {p:Nat × Nat} {i:Nat} {b:MB}:(mapB g b).rf p i↔b.rf p i:=by unfold MB.rf;rw [qc8]
theorem zej (f:Nat→Nat):Subs ρ (ρ ∘ f) (ren1 f) n
 | .val _,_=>rfl
 | .ptr _ _ _,_=>rfl
 | .slc _ _ _ _,_=>rfl
 | .gsl _ _,_=>rfl
 | .clo g hs,_=>by simp [ren1,conc1,Function.comp_def]
 | .gptr _ _ _,_=>rfl
 | .rsl _ _,_=>rfl
 | .rptr _ _ _,_=>rfl
 | .bnd _ _,_=>rfl
end
def atR (f:Nat→Nat) (mem:List MB):Nat→List MB→Prop
 | _,[]=>True
 | h,b::m=>(b=.dead∨nth mem (f h)=some (renB f b))∧atR f mem (h+1) m
theorem zxt {f:Nat→Nat} {mem:List MB}:∀ (m:List MB) (h:Nat),atR f mem h m→∀ (k:Nat) (b:MB),m[k]?=some b→b=.dead∨mem[f (h+k)]?=some (renB f b)
 | [],_,_,k,b,hb=>by simp at hb
 | c :: m, h, ha, k, b, hb => by
   cases k with
   | zero =>
     obtain rfl:c=b:=by simpa using hb
     rw [←zak];exact ha.1
   | succ k =>
     have:=zxt m (h+1) ha.2 k b (by simpa using hb)
     rwa [show h+1+k=h+(k+1) by omega] at this
def distinct:List Nat→Bool
 | []=>true
 | x::l=>!inL l x && distinct l
theorem zds:∀ {l:List Nat} {x:Nat},inL l x=true↔x∈l
 | [],x=>by simp [inL]
 | y :: l, x => by
   simp only [inL]
   cases h:Nat.beq y x with
   | true=>simp [Nat.eq_of_beq_eq_true h]
   | false =>
     have:y≠x:=fun e=>by subst e;rw [Nat.beq_refl] at h;cases h
     simp [zds (l:=l),Ne.symm this]
theorem zc6:∀ {l:List Nat},distinct l=true→∀ {i j x:Nat},l[i]?=some x→l[j]?=some x→i=j
 | [],_,i,j,x,hi,_=>by simp at hi
 | y :: l, h, i, j, x, hi, hj => by
   simp only [distinct,Bool.and_eq_true] at h
   have hno:y ∉ l:=fun hy=>by
    have:=zds.2 hy
    rw [this] at h
    exact absurd h.1 (by simp)
   cases i<;>cases j
   ·rfl
   ·rename_i j
    exact absurd (by
     obtain rfl:y=x:=by simpa using hi
     exact List.mem_of_getElem? (show l[j]?=some y by simpa using hj)) hno
   ·rename_i i
    exact absurd (by
     obtain rfl:y=x:=by simpa using hj
     exact List.mem_of_getElem? (show l[i]?=some y by simpa using hi)) hno
   ·rename_i i j
    rw [zc6 h.2 (show l[i]?=some x by simpa using hi) (show l[j]?=some x by simpa using hj)]
theorem zg7 {l:List Nat} {h:Nat} (hh:h<l.length):l[h]?=some (pi l h):=by
 simp only [pi,zak];rw [List.getElem?_eq_getElem hh]
theorem zgm {w0 w:World} {own:List Nat} {ρ:Nat→Nat × Nat} {mem m:List MB} (l:List Nat) (hl:m.length=l.length) (hd:distinct l=true) (hat:atR (pi l) mem 0 m) (hok:∀ b∈m,b.ok m.length) (H:Sat w0 own ρ mem w):Sat w0 own (ρ ∘ pi l) m w:=by
 have get:∀ (k:Nat) (b:MB),m[k]?=some b→b=.dead∨mem[pi l k]?=some (renB (pi l) b):=fun k b hb=>by
  have:=zxt m 0 hat k b hb
  rwa [Nat.zero_add] at this
 refine ⟨H.gr,fun h b hb=>?_,hok,fun h b hb=>?_,fun h k b c hb hc hne i hw=>?_⟩
 ·rcases get h b hb with rfl|h2
  ·trivial
  ·exact zg3 (zej _) (hok b (List.mem_of_getElem? hb)) (H.blk _ _ h2)
 ·rcases get h b hb with rfl|h2
  ·exact ⟨fun i h=>(by cases h.1),fun i h=>(by cases h.1)⟩
  ·have:=H.fre _ _ h2
   exact ⟨fun i hi=>this.1 i (zbt.2 hi),fun i hi=>this.2 i (zd2.2 hi)⟩
 ·rcases get h b hb with rfl|h2
  ·cases hw.1
  ·rcases get k c hc with rfl|h3
   ·exact ⟨fun h=>(by cases h.1),fun h=>(by cases h.1)⟩
   ·have h4:=H.apt (pi l h) (pi l k) _ _ h2 h3 (fun e=>hne (by
     have i1:=zg7 (l:=l) (h:=h) (by rw [←hl];exact (List.getElem?_eq_some_iff.1 hb).1)
     have i2:=zg7 (l:=l) (h:=k) (by rw [←hl];exact (List.getElem?_eq_some_iff.1 hc).1)
     rw [e] at i1;exact zc6 hd i1 i2)) i (zbt.2 hw)
    exact ⟨fun h=>h4.1 (zbt.2 h),fun h=>h4.2 (zd2.2 h)⟩
def keeps:Nat→List Nat→Bool
 | 0,_=>true
 | n+1,l=>(match nth l n with|some k=>Nat.beq k n|none=>false) && keeps n l
theorem zit:∀ {n:Nat} {l:List Nat},keeps n l=true→∀ h,h<n→pi l h=h
 | 0,_,_,h,hh=>by omega
 | n + 1, l, hk, h, hh => by
   simp only [keeps,Bool.and_eq_true] at hk
   rcases Nat.lt_succ_iff_lt_or_eq.1 hh with h1|rfl
   ·exact zit hk.2 h h1
   ·unfold pi
    have:=hk.1
    split at this
    ·rename_i k hk'
     simp only [Nat.eq_of_beq_eq_true this]
    ·cases this
section
variable {E:Env} {R:Ending→World→Prop}
theorem zal {j:Nat} {k:List It} {tm tm':PT} {mem':List MB} {α:Type} {dead:List Nat} {V:α→List (Nat × SV)} {M:α→List MB} {μ:α→Nat} {x:α} {E0:Env} (hE0:E.w0=E0.w0∧E.own=E0.own∧E.ρ0=E0.ρ0)
 (hL:∀ a w,(∃ y,Inv E0 (setV (V y) (fgt dead tm)) (M y) a w∧μ y<μ x)→E.L j a w) (y:α) (l:List Nat) (hμ:μ y<μ x) (hlen:(M y).length=l.length) (hd:distinct l=true) (hk:keeps E.ρ0.length l=true) (hok:∀ b∈M y,b.ok (M y).length)
 (htok:TmOk (M y).length (setV (V y) (fgt dead tm))) (hat:atR (pi l) mem' 0 (M y)) (hsub:subP tm' (renP (pi l) (setV (V y) (fgt dead tm)))):Good E R ⟨.again j::k,tm',mem'⟩:=by
 intro ρ w a hρ hl H htm ha hit
 refine hL a w ⟨y,⟨ρ ∘ pi l,fun h p hp=>?_,?_,zze (zej _) htok (zhg hsub ha)⟩,hμ⟩
 ·rw [←hE0.2.2] at hp
  show ρ (pi l h)=p
  rw [zit hk h (List.getElem?_eq_some_iff.1 hp).1];exact hρ h p hp
 ·rw [←hE0.1,←hE0.2.1]
  exact zgm l hlen hd hat hok H
theorem zft:∀ {k:List It},plainK k=true→∀ it∈k,∀ m,It.ok m it
 | [],_,it,hi,_=>by cases hi
 | .code c :: k, h, it, hi, m => by
   rcases List.mem_cons.1 hi with rfl|hi
   ·trivial
   ·exact zft (k:=k) h it hi m
 | .blk c :: k, h, it, hi, m => by
   rcases List.mem_cons.1 hi with rfl|hi
   ·trivial
   ·exact zft (k:=k) h it hi m
 | .again i :: k, h, it, hi, m => by
   rcases List.mem_cons.1 hi with rfl|hi
   ·trivial
   ·exact zft (k:=k) h it hi m
 | .ops _ _::_,h,_,_,_=>by simp [plainK] at h
 | .head _ _ _ _ _ _ _::_,h,_,_,_=>by simp [plainK] at h
 | .call _ _ _::_,h,_,_,_=>by simp [plainK] at h
 | .ret::_,h,_,_,_=>by simp [plainK] at h
theorem zf8 {P:Program} {D:Ords} {fn:Func} {L:Nat→Act→World→Prop} (ρ ρ':Nat→Nat × Nat):∀ {k:List It},plainK k=true→cont P D fn R L ρ k=cont P D fn R L ρ' k
 | [],_=>rfl
 | .code c::k,h=>by simp only [cont,zf8 ρ ρ' (k:=k) h]
 | .blk c::k,h=>by simp only [cont,zf8 ρ ρ' (k:=k) h]
 | .again i::k,h=>by simp only [cont,zf8 ρ ρ' (k:=k) h]
 | .ops _ _::_,h=>by simp [plainK] at h
 | .head _ _ _ _ _ _ _::_,h=>by simp [plainK] at h
 | .call _ _ _::_,h=>by simp [plainK] at h
 | .ret::_,h=>by simp [plainK] at h
theorem zix {k:List It} {tm:PT} {mem:List MB} (slot:Nat) (e:TypeId) (z:Nat) (hpk:plainK k=true) (hs:tget tm slot=some (.one (.val (.slice none 0 0)))) (h:Good E R ⟨k,tset tm slot (.one (.gsl (len mem) 0)),mem++[.grow e z 0 []]⟩):Good E R ⟨k,tm,mem⟩:=by
 intro ρ w a hρ hl H htm ha hit
 have hex:∀ h,h<mem.length→ρ h=ext2 ρ mem.length (0,0) h:=fun h hh=>zba hh
 have H':=H.addGrow (w':=w) (row:=none) (e:=e) (z:=z) (k:=0) (l:=[]) (World.grownBy.refl w _) (fun g hg=>by cases hg) (World.ownsRow_nil w 0 e z) (by simp) (.inl rfl) hex (by rw [zay];rfl)
 have htm':TmOk (mem++[MB.grow e z 0 []]).length tm:=htm.mono (by simp)
 have hrel:Rel (ext2 ρ mem.length (0,0)) (tset tm slot (.one (.gsl (len mem) 0))) a:=by
  have h1:=zbz (ha.ext htm hex) (some slot) (.one (.gsl (len mem) 0))
  have h2:a.put (some slot) (concV (ext2 ρ mem.length (0,0)) (.one (.gsl (len mem) 0)))=a:=by
   have h3:=ha.at_ hs (by simp)
   simp only [concV,conc1] at h3;simp only [Act.put,concV,conc1,zaq,zay,gslV];obtain ⟨t,d⟩:=a;simp only at h3 ⊢
   congr 1
   refine Array.ext_getElem? fun i=>?_
   by_cases hi:slot=i
   ·subst hi
    have:=(Array.getElem?_eq_some_iff.1 h3).1
    rw [Array.getElem?_setIfInBounds_self_of_lt this,h3]
   ·rw [Array.getElem?_setIfInBounds_ne hi]
  rw [h2] at h1;exact h1
 have:=h _ w a (fun h p hp=>by rw [←hex h (Nat.lt_of_lt_of_le (List.getElem?_eq_some_iff.1 hp).1 hl)];exact hρ h p hp) (Nat.le_trans hl (by simp)) H' (zck (d:=some slot) htm' (by show len mem<_;simp [zaq])) hrel (fun it hi=>zft hpk it hi _)
 rw [zf8 _ ρ hpk] at this;exact this
theorem zee {k:List It} {tm:PT} {mem:List MB} (b i:Nat) (e:TypeId) (z:Nat) {t:TypeId} {l:List S1} (hpk:plainK k=true) (hb:nth mem b=some (.own t l)) (hs:nth l i=some (.val (.slice none 0 0))) (h:Good E R ⟨k,tm,setAt mem b (.own t (setAt l i (.gsl (len mem) 0)))++[.grow e z 0 []]⟩):Good E R ⟨k,tm,mem⟩:=by
 intro ρ w a hρ hl H htm ha hit;rw [zak] at hb hs
 have hex:∀ h,h<mem.length→ρ h=ext2 ρ mem.length (0,0) h:=fun h hh=>zba hh
 have hblt:=(List.getElem?_eq_some_iff.1 hb).1
 have H':=H.addGrow (w':=w) (row:=none) (e:=e) (z:=z) (k:=0) (l:=[]) (World.grownBy.refl w _) (fun g hg=>by cases hg) (World.ownsRow_nil w 0 e z) (by simp) (.inl rfl) hex (by rw [zay];rfl)
 have hb':(mem++[MB.grow e z 0 []])[b]?=some (.own t l):=by rw [List.getElem?_append_left hblt];exact hb
 have hkb:=H'.blk b _ hb'
 have hcells:(setAt l i (S1.gsl (len mem) 0)).map (conc1 (ext2 ρ mem.length (0,0)))=l.map (conc1 (ext2 ρ mem.length (0,0))):=by
  rw [zaf,List.map_set]
  refine List.ext_getElem? fun j=>?_
  by_cases hj:i=j
  ·subst hj
   have:=(List.getElem?_eq_some_iff.1 hs).1
   rw [List.getElem?_set_self (by simpa using this),List.getElem?_map,hs]
   simp [conc1,zaq,zay,gslV]
  ·rw [List.getElem?_set_ne hj]
 have hok':(MB.own t (setAt l i (S1.gsl (len mem) 0))).ok (mem++[MB.grow e z 0 []]).length:=by
  intro x hx;rw [zaf] at hx
  rcases List.mem_or_eq_of_mem_set hx with h1|rfl
  ·exact H'.ok _ (List.mem_of_getElem? hb') x h1
  ·show len mem<_;simp [zaq]
 have H2:=H'.put (b':=.own t (setAt l i (.gsl (len mem) 0))) hb' rfl rfl hok' ⟨hkb.1,by rw [hcells];exact hkb.2⟩ rfl rfl rfl rfl (fun _ _=>rfl) (fun o h=>by cases h)
 rw [List.set_append_left _ _ hblt,←zaf] at H2
 have hll:(setAt mem b (.own t (setAt l i (.gsl (len mem) 0)))++[MB.grow e z 0 []]).length=mem.length+1:=by simp [zaf]
 have:=h _ w a (fun h p hp=>by rw [←hex h (Nat.lt_of_lt_of_le (List.getElem?_eq_some_iff.1 hp).1 hl)];exact hρ h p hp) (Nat.le_trans hl (by simp [zaf])) H2 (htm.mono (by simp [zaf])) (ha.ext htm hex) (fun it hi=>zft hpk it hi _)
 rw [zf8 _ ρ hpk] at this;exact this
def S1.okB (n:Nat):S1→Prop
 | .val _=>True
 | .ptr h _ _=>Nat.blt h n=true
 | .slc h _ _ _=>Nat.blt h n=true
 | .gsl h _=>Nat.blt h n=true
 | .clo _ hs=>∀ h∈hs,h<n
 | .gptr h _ _=>Nat.blt h n=true
 | .rsl h _=>Nat.blt h n=true
 | .rptr h _ _=>Nat.blt h n=true
 | .bnd _ h=>Nat.blt h n=true
def allS (n:Nat):List S1→Prop
 | []=>True
 | x::l=>S1.okB n x∧allS n l
def TV.okB (n:Nat):TV→Prop
 | .one x=>S1.okB n x
 | .agg l=>allS n l
def allT (n:Nat):List TV→Prop
 | []=>True
 | x::l=>TV.okB n x∧allT n l
def SV.okB (n:Nat):SV→Prop
 | .one x=>S1.okB n x
 | .agg l=>allS n l
 | .tup l=>allT n l
 | .any=>True
def okP (n:Nat):PT→Prop
 | .nil=>True
 | .node v l r=>(match v with|some v=>SV.okB n v|none=>True)∧okP n l∧okP n r
theorem S1.okB.ok {n:Nat}:∀ {x:S1},S1.okB n x→x.ok n
 | .val _,_=>trivial
 | .ptr _ _ _,h=>Nat.le_of_ble_eq_true h
 | .slc _ _ _ _,h=>Nat.le_of_ble_eq_true h
 | .gsl _ _,h=>Nat.le_of_ble_eq_true h
 | .clo _ _,h=>h
 | .gptr _ _ _,h=>Nat.le_of_ble_eq_true h
 | .rsl _ _,h=>Nat.le_of_ble_eq_true h
 | .rptr _ _ _,h=>Nat.le_of_ble_eq_true h
 | .bnd _ _,h=>Nat.le_of_ble_eq_true h
theorem allS.ok {n:Nat}:∀ {l:List S1},allS n l→∀ x∈l,x.ok n
 | [],_,x,hx=>by cases hx
 | y :: l, h, x, hx => by
   rcases List.mem_cons.1 hx with rfl|hx
   ·exact h.1.ok
   ·exact allS.ok h.2 x hx
theorem TV.okB.ok {n:Nat}:∀ {x:TV},TV.okB n x→x.ok n
 | .one _,h=>S1.okB.ok h
 | .agg _,h=>allS.ok h
theorem allT.ok {n:Nat}:∀ {l:List TV},allT n l→∀ x∈l,x.ok n
 | [],_,x,hx=>by cases hx
 | y :: l, h, x, hx => by
   rcases List.mem_cons.1 hx with rfl|hx
   ·exact h.1.ok
   ·exact allT.ok h.2 x hx
theorem SV.okB.ok {n:Nat}:∀ {x:SV},SV.okB n x→x.ok n
 | .one _,h=>S1.okB.ok h
 | .agg _,h=>allS.ok h
 | .tup _,h=>allT.ok h
 | .any,_=>trivial
theorem zav {n:Nat}:∀ {p:PT},okP n p→TmOk n p
 | .nil,_=>fun t v hv=>by simp [tget] at hv
 | .node v l r, h => fun t u hu => by
   cases t with
   | zero =>
     simp only [tget] at hu;subst hu;exact SV.okB.ok h.1
   | succ t =>
     simp only [tget] at hu
     cases hb:Nat.beq (t % 2) 0<;>rw [hb] at hu
     ·exact zav h.2.2 _ u hu
     ·exact zav h.2.1 _ u hu
end
end Eng
namespace Eng
theorem Sat.upd {w0 w w':World} {own:List Nat} {ρ:Nat→Nat × Nat} {mem mem':List MB} {S:Nat→Prop} (H:Sat w0 own ρ mem w) (hG:Gr S w w') (ch:Nat→Prop) (hl:mem'.length=mem.length)
 (hS:∀ i,S i→∃ (h:Nat) (b:MB),ch h∧mem[h]?=some b∧b.wr (ρ h)=true∧(ρ h).1=i) (hsame:∀ h,¬ ch h→mem'[h]?=mem[h]?)
 (hnew:∀ (h:Nat) (b b':MB),ch h→mem[h]?=some b→mem'[h]?=some b'→b.wr (ρ h)=true∧b'.rd=false∧b'.ok mem.length∧BlkAt ρ w' (ρ h) b') (hob:∀ o,MB.obj o ∉ mem':=by simp):Sat w0 own ρ mem' w':=by
 have old:∀ (h:Nat) (b':MB),mem'[h]?=some b'→∃ b,mem[h]?=some b:=fun h b' hb=>by
  have:=(List.getElem?_eq_some_iff.1 hb).1
  exact ⟨_,List.getElem?_eq_getElem (by rw [←hl];exact this)⟩
 have wfa:∀ (h:Nat) (b':MB) i,mem'[h]?=some b'→b'.wf (ρ h) i→i=(ρ h).1:=fun h b' i hb hw=>by
  cases b'<;>first|exact hw.2|exact absurd (List.mem_of_getElem? hb) (hob _)
 refine H.move ch ch id (fun i=>∃ (h:Nat) (b:MB),ch h∧mem[h]?=some b∧b.wr (ρ h)=true∧(ρ h).1=i) (fun i ⟨h,b,h1,h2,h3,h4⟩=>.inl ⟨h,b,h1,h2,h4 ▸ MB.wf1 h3⟩) (hG.mono fun i _ hi=>hS i hi) (fun _ _ _ _ e=>e) (fun b' hb=>?_) (fun k b hb hn=>⟨hn,b,by rw [hsame k hn] at hb;exact hb,fun _ h=>h,fun _ h=>h,fun h=>h⟩) (fun k b' hb hn=>?_) (fun k j b c hk hj hb hc hne i hw=>?_)
 ·obtain ⟨h,hh⟩:=List.getElem?_of_mem hb
  rw [hl];obtain ⟨b,hb0⟩:=old h b' hh
  rcases Classical.em (ch h) with hc|hc
  ·exact (hnew h b b' hc hb0 hh).2.2.1
  ·rw [hsame h hc] at hh
   exact H.ok b' (List.mem_of_getElem? hh)
 ·obtain ⟨b,hb0⟩:=old k b' hb
  obtain ⟨h1,h2,_,h4⟩:=hnew k b b' hn hb0 hb
  exact ⟨h4,fun i hi=>⟨k,b,hn,hb0,h1,(wfa k b' i hb hi).symm⟩,fun i hi=>by have h9:=hi.1;rw [h2] at h9;cases h9⟩
 ·obtain ⟨b0,hb0⟩:=old k b hb
  obtain ⟨c0,hc0⟩:=old j c hc
  have h1:=hnew k b0 b hk hb0 hb
  have h2:=hnew j c0 c hj hc0 hc
  have h3:=H.apart k j b0 c0 hb0 hc0 h1.1 (by rw [h2.1];rfl) hne
  rw [wfa k b i hb hw]
  exact ⟨fun h=>h3 (wfa j c _ hc h),fun h=>h3 h.2⟩
theorem zwy {E:Env} {R:Ending→World→Prop} (hr:E.fn.results=#[]) {k:List It} {tm:PT} {mem:List MB}
 (h:∀ ρ w,(∀ (h:Nat) p,E.ρ0[h]?=some p→ρ h=p)→Sat E.w0 E.own ρ mem w→R (.returned (.tuple #[])) w):Good E R ⟨.ret::k,tm,mem⟩:=by
 intro ρ w a hρ hl H htm ha hit;refine ⟨ha.defers,.tuple #[],?_,h ρ w hρ H⟩;rw [zcg,hr];simp
theorem zww {E:Env} {R:Ending→World→Prop} (hE:E.Ok) {r s t:ResultVar} (hr:E.fn.results=#[r,s,t]) {k:List It} {tm:PT} {mem:List MB} {v u x:SV} (hv:resE std E.T tm mem r=some v) (hu:resE std E.T tm mem s=some u) (hx:resE std E.T tm mem t=some x)
 (h:∀ ρ w,(∀ (h:Nat) p,E.ρ0[h]?=some p→ρ h=p)→Sat E.w0 E.own ρ mem w→R (.returned (.tuple #[concV ρ v,concV ρ u,concV ρ x])) w):Good E R ⟨.ret::k,tm,mem⟩:=by
 intro ρ w a hρ hl H htm ha hit;refine ⟨ha.defers,.tuple #[concV ρ v,concV ρ u,concV ρ x],?_,h ρ w hρ H⟩
 have h1:=zjz hE H ha htm hv
 have h2:=zjz hE H ha htm hu
 have h3:=zjz hE H ha htm hx
 rw [zcg,hr];simp [h1,h2,h3]
end Eng
namespace Eng
def headW (l:List Nat):List It→Bool
 | []=>true
 | .head _ n0 W _ _ _ _::k=>allW l n0 W && headW l k
 | .call _ _ _::_=>false
 | .ret::k=>headW l k
 | .code _::k=>headW l k
 | .ops _ _::k=>headW l k
 | .blk _::k=>headW l k
 | .again _::k=>headW l k
where allW:List Nat→Nat→List Nat→Bool
 | [],_,_=>true
 | x::l,n0,W=>(Nat.ble n0 x || inL W x) && allW l n0 W
theorem zqu:∀ {l:List Nat} {n0:Nat} {W:List Nat},headW.allW l n0 W=true→∀ h,h<n0→inL W h=false→inL l h=false
 | [],_,_,_,h,_,_=>rfl
 | x :: l, n0, W, ha, h, hh, hw => by
   simp only [headW.allW,Bool.and_eq_true,Bool.or_eq_true] at ha;simp only [inL]
   cases hx:Nat.beq x h with
   | true =>
     obtain rfl:=Nat.eq_of_beq_eq_true hx
     rcases ha.1 with h1|h1
     ·have:=Nat.le_of_ble_eq_true h1;omega
     ·rw [h1] at hw;cases hw
   | false=>exact zqu ha.2 h hh hw
theorem zeu {l:List Nat}:∀ {k:List It},headW l k=true→∀ it∈k,(∀ (all:List Oper) (n0:Nat) (W:List Nat) (m0:List MB) (ls:List Nat) (ord:List (Nat × Bool)) (m:Nat),it=.head all n0 W m0 ls ord m→∀ h,h<n0→inL W h=false→inL l h=false)
 | [],_,it,hi=>by cases hi
 | x :: k, h, it, hi => by
   rcases List.mem_cons.1 hi with rfl|hi2
   ·intro all n0 W m0 ls ord m he
    subst he;simp only [headW,Bool.and_eq_true] at h
    exact fun j hj hw=>zqu h.1 j hj hw
   ·cases x
    case head=>simp only [headW,Bool.and_eq_true] at h;exact zeu h.2 it hi2
    case call=>cases h
    all_goals exact zeu (k:=k) h it hi2
section
variable {E:Env} {R:Ending→World→Prop}
end
section
variable {l:List Nat} {ρ ρ':Nat→Nat × Nat}
end
theorem zne {E:Env} {R:Ending→World→Prop} (hr:E.fn.results=#[]) {tm:PT} {mem:List MB}
 (h:∀ ρ w,(∀ (h:Nat) p,E.ρ0[h]?=some p→ρ h=p)→Sat E.w0 E.own ρ mem w→R (.returned (.tuple #[])) w):Good E R ⟨[],tm,mem⟩:=by
 intro ρ w a hρ hl H htm ha hit;refine ⟨ha.defers,.tuple #[],?_,h ρ w hρ H⟩;rw [zcg,hr];simp
theorem Sat.congr {w0 w:World} {own:List Nat} {ρ ρ':Nat→Nat × Nat} {mem:List MB} (H:Sat w0 own ρ mem w) (hρ:∀ h,h<mem.length→ρ h=ρ' h):Sat w0 own ρ' mem w:=by
 have lt:∀ (h:Nat) (b:MB),mem[h]?=some b→h<mem.length:=fun h b hb=>(List.getElem?_eq_some_iff.1 hb).1
 refine ⟨H.gr,fun h b hb=>?_,H.ok,fun h b hb=>?_,fun h k b c hb hc hne i hw=>?_⟩
 ·rw [←hρ h (lt h b hb)]
  exact (H.blk h b hb).congr hρ (H.ok b (List.mem_of_getElem? hb))
 ·rw [←hρ h (lt h b hb)]
  exact H.fre h b hb
 ·rw [←hρ h (lt h b hb)] at hw
  rw [←hρ k (lt k c hc)];exact H.apt h k b c hb hc hne i hw
end Eng
namespace Eng
def WPn (P:Program) (c:Code) (Q:Exit→Act→World→Prop):Nat→Act→World→Prop
 | 0=>fun _ _=>False
 | n+1=>fun a w=>c.wp P (Exit.then (WPn P c Q n) Q) a w
theorem zir {P:Program} {c:Code} {Q:Exit→Act→World→Prop} {n:Nat} {a:Act} {w:World} (h:WPn P c Q n a w):(Code.loop c).wp P Q a w :=
 zhq (fun n a w=>WPn P c Q n a w) id n h fun n a w hI=>by
  cases n with
  | zero=>exact hI.elim
  | succ n =>
    refine wp_mono hI fun e a w he=>?_
    cases e with
    | normal=>exact ⟨n,he,Nat.lt_succ_self n⟩
    | _=>exact he
section
variable {E:Env} {R:Ending→World→Prop}
theorem zbo {body:Code} {k:List It} {tm:PT} {mem:List MB} (j N:Nat) (hk:plainJ j k=true)
 (h:∀ Ls:Nat→Nat→Act→World→Prop,(∀ (n:Nat) (ρ0':List (Nat × Nat)) (tm':PT) (mem':List MB),Good { E with L:=Ls n,ρ0:=ρ0' } R ⟨.code body::.again j::k,tm',mem'⟩→Good { E with L:=Ls (n+1),ρ0:=ρ0' } R ⟨.again j::k,tm',mem'⟩)→Good { E with L:=Ls (N+1) } R ⟨.again j::k,tm,mem⟩) :
 Good E R ⟨.code (.loop body)::k,tm,mem⟩:=by
 obtain ⟨Ls,hLs⟩:∃ Ls:Nat→Nat→Act→World→Prop,Ls=fun n i=>if i=j then (fun a w=>∀ b0,stripC b0=body→codeChk E.D b0=true→WPn E.P b0 (cont E.P E.D E.fn R E.L (fun _=>(0,0)) k) n a w) else E.L i:=⟨_,rfl⟩
 have hne:∀ n i,i≠j→Ls n i=E.L i:=fun n i hi=>by rw [hLs];simp [hi]
 have hj:∀ n,Ls n j=fun a w=>∀ b0,stripC b0=body→codeChk E.D b0=true→WPn E.P b0 (cont E.P E.D E.fn R E.L (fun _=>(0,0)) k) n a w:=fun n=>by rw [hLs];simp
 have hcp:∀ n ρ,cont E.P E.D E.fn R (Ls n) ρ k=cont E.P E.D E.fn R E.L (fun _=>(0,0)) k:=fun n ρ=>zbv (j:=j) (fun i hi=>hne n i hi) hk
 have hg:=h Ls fun n ρ0' tm' mem' hG ρ w a hρ hl H htm ha hit=>by
  show cont E.P E.D E.fn R (Ls (n+1)) ρ (.again j::k) .normal a w
  simp only [cont,Exit.then,hj];intro b0 hb hchk
  have:=hG ρ w a hρ hl H htm ha (zd9 trivial trivial (tl hit)) b0 hb hchk
  refine wp_mono this fun e a w he=>?_
  cases e with
  | normal =>
    have he':Ls n j a w:=he
    rw [hj] at he';exact he' b0 hb hchk
  | _ =>
    simp only [cont,Exit.then] at he ⊢;rw [hcp] at he;exact he
 intro ρ w a hρ hl H htm ha hit c0 hc0 hchk
 cases c0<;>simp only [stripC] at hc0<;>try (cases hc0;done)
 rename_i b0
 cases hc0
 have h1:=hg ρ w a hρ hl H htm ha (zbh trivial (tl hit))
 have h2:Ls (N+1) j a w:=h1
 rw [hj] at h2
 have h3:=zir (h2 b0 rfl hchk)
 refine wp_mono h3 fun e a w he=>?_
 have:=hcp (N+1) ρ
 have e1:cont E.P E.D E.fn R E.L ρ k=cont E.P E.D E.fn R E.L (fun _=>(0,0)) k:=zbv (j:=j) (fun i _=>rfl) hk
 rw [e1];exact he
def tvO:SV→TV
 | .one x=>.one x
 | .agg l=>.agg l
 | _=>.one (.val undef)
theorem zga {ρ:Nat→Nat × Nat} {v:SV} (h:(tvO v).sv=v):concT ρ (tvO v)=concV ρ v:=by
 cases v with
 | one x=>rfl
 | agg l=>rfl
 | tup l=>cases h
 | any=>cases h
theorem zj6 (hE:E.Ok) {r s:ResultVar} (hr:E.fn.results=#[r,s]) {k:List It} {tm:PT} {mem:List MB} {v u:SV} (hv:resE std E.T tm mem r=some v) (hu:resE std E.T tm mem s=some u) (h1:(tvO v).sv=v) (h2:(tvO u).sv=u)
 (h:∀ ρ w,(∀ (h:Nat) p,E.ρ0[h]?=some p→ρ h=p)→Sat E.w0 E.own ρ mem w→R (.returned (concV ρ (.tup [tvO v,tvO u]))) w):Good E R ⟨.ret::k,tm,mem⟩ :=
 zwx hE hr hv hu fun ρ w hρ hS=>by
  have:=h ρ w hρ hS
  simp only [concV,List.map,zga h1,zga h2] at this;exact this
theorem zew (hE:E.Ok) {r s t:ResultVar} (hr:E.fn.results=#[r,s,t]) {k:List It} {tm:PT} {mem:List MB} {v u x:SV} (hv:resE std E.T tm mem r=some v) (hu:resE std E.T tm mem s=some u) (hx:resE std E.T tm mem t=some x) (h1:(tvO v).sv=v) (h2:(tvO u).sv=u) (h3:(tvO x).sv=x)
 (h:∀ ρ w,(∀ (h:Nat) p,E.ρ0[h]?=some p→ρ h=p)→Sat E.w0 E.own ρ mem w→R (.returned (concV ρ (.tup [tvO v,tvO u,tvO x]))) w):Good E R ⟨.ret::k,tm,mem⟩ :=
 zww hE hr hv hu hx fun ρ w hρ hS=>by
  have:=h ρ w hρ hS
  simp only [concV,List.map,zga h1,zga h2,zga h3] at this;exact this
def kOk (mem mem':List MB):List It→Prop
 | []=>True
 | .head _ n0 W _ _ _ _::k=>(∀ h,h<n0→inL W h=false→mem'[h]?=mem[h]?)∧kOk mem mem' k
 | .call _ _ _::_=>False
 | _::k=>kOk mem mem' k
theorem ziv {mem mem':List MB} (hle:mem.length≤mem'.length):∀ {k:List It},kOk mem mem' k→∀ it∈k,it.ok mem→it.ok mem'
 | [],_,it,hi,_=>by cases hi
 | .head all n0 W m0 ls ord m :: k, h, it, hi, ho => by
   rcases List.mem_cons.1 hi with rfl|hi
   ·obtain ⟨a1,a2,a3,a4⟩:=ho
    exact ⟨a1,Nat.le_trans a2 hle,a3,fun j hj hw=>(h.1 j hj hw).trans (a4 j hj hw)⟩
   ·exact ziv hle (k:=k) h.2 it hi ho
 | .call _ _ _::_,h,_,_,_=>h.elim
 | .code c :: k, h, it, hi, ho => by
   rcases List.mem_cons.1 hi with rfl|hi
   ·trivial
   ·exact ziv hle (k:=k) h it hi ho
 | .ops _ _ :: k, h, it, hi, ho => by
   rcases List.mem_cons.1 hi with rfl|hi
   ·trivial
   ·exact ziv hle (k:=k) h it hi ho
 | .blk _ :: k, h, it, hi, ho => by
   rcases List.mem_cons.1 hi with rfl|hi
   ·trivial
   ·exact ziv hle (k:=k) h it hi ho
 | .again _ :: k, h, it, hi, ho => by
   rcases List.mem_cons.1 hi with rfl|hi
   ·trivial
   ·exact ziv hle (k:=k) h it hi ho
 | .ret :: k, h, it, hi, ho => by
   rcases List.mem_cons.1 hi with rfl|hi
   ·trivial
   ·exact ziv hle (k:=k) h it hi ho
theorem zi0 (hE:E.Ok) {f:FuncId} {fn':Func} {c:Code} {D':Ords} {args:List SV} {dst:Option Tmp} {k:List It} {tm:PT} {mem:List MB} {n:Nat} (hf:E.P.funcs[f]?=some fn') (hb:fn'.body=some c) (hgo:Goes E.P f) (hchk:codeChk D' c=true) {tm':List SV} (htm':tm'=args++List.replicate (fn'.ntmps-args.length) (.one (.val undef)))
 (h:∀ (ps:List (Nat × Nat)) (R':Ending→World→Prop),ps.length=mem.length→(∀ (v:SV) (mem':List MB),v.ok mem'.length→mem.length≤mem'.length→kOk mem mem' k→Good E R ⟨k,putE tm dst v,mem'⟩→∀ ρ w,(∀ (h:Nat) p,ps[h]?=some p→ρ h=p)→Sat E.w0 E.own ρ mem' w→R' (.returned (concV ρ v)) w) →
  Good ⟨E.P,E.T,D',fn',E.w0,E.own,ps,fun _ _ _=>False⟩ R' (run std E.T D' n ⟨[.code (stripC c)],tfrom .nil 0 tm',mem⟩)) :
 Good E R ⟨.call f args dst::k,tm,mem⟩:=by
 intro ρ w a hρ hl H htm ha hit
 have hargs:∀ v∈args,v.ok mem.length:=hd hit
 refine ⟨hgo,?_⟩
 have hps:∀ h,h<mem.length→((List.range mem.length).map ρ)[h]?=some (ρ h):=fun h hh=>by simp [hh]
 obtain ⟨ps,hpe⟩:∃ q,q=(List.range mem.length).map ρ:=⟨_,rfl⟩;rw [←hpe] at hps
 have hpl:ps.length=mem.length:=by rw [hpe];simp
 have hρp:∀ (h:Nat) p,ps[h]?=some p→ρ h=p:=fun h p hp=>by
  have hh:=(List.getElem?_eq_some_iff.1 hp).1
  rw [hpl] at hh;rw [hps h hh] at hp;exact Option.some.inj hp
 have hg:=h ps (fun e w'=>∃ v,e=.returned v∧cont E.P E.D E.fn R E.L ρ k .normal (a.put dst v) w') hpl fun v mem' hvok hle hk hG ρ' w' hρ' H'=>by
  have hag:∀ h,h<mem.length→ρ h=ρ' h:=fun h hh=>(hρ' h _ (hps h hh)).symm
  refine ⟨_,rfl,?_⟩
  have:=hG ρ' w' _ (fun h p hp=>by rw [←hag h (Nat.lt_of_lt_of_le (List.getElem?_eq_some_iff.1 hp).1 hl)];exact hρ h p hp) (Nat.le_trans hl hle) H' (zck (htm.mono hle) hvok) (zbz (ha.ext htm hag) dst v) (fun it hi=>ziv hle hk it hi (tl hit it hi))
  rw [←za4 hag fun it hi=>tl hit it hi] at this
  exact this
 refine calls_of_wp hf hb ?_
 have hsz:((args.map (concV ρ)).toArray).size=args.length:=by simp
 have ha':((args.map (concV ρ)).toArray++Array.replicate (fn'.ntmps-((args.map (concV ρ)).toArray).size) undef)=(tm'.map (concV ρ)).toArray:=by
  rw [htm',hsz];refine Array.ext' ?_;rw [List.map_append,List.map_replicate];simp [concV,conc1]
 rw [ha']
 have hget:∀ t v,tget (tfrom .nil 0 tm') t=some v→tm'[t]?=some v:=fun t v hv=>by
  rcases zgk tm' .nil 0 t v hv with ⟨_,h2⟩|h2
  ·simpa using h2
  ·simp [tget] at h2
 have hok:∀ v∈tm',v.ok mem.length:=fun v hv=>by
  rw [htm'] at hv
  rcases List.mem_append.1 hv with h1|h1
  ·exact hargs v h1
  ·rw [(List.mem_replicate.1 h1).2];trivial
 have hE':Env.Ok ⟨E.P,E.T,D',fn',E.w0,E.own,ps,fun _ _ _=>False⟩:=⟨hE.tab,hE.mixed⟩
 have:=zla hE' n _ hg ρ w ⟨(tm'.map (concV ρ)).toArray,[]⟩ hρp (by rw [←hpl];exact Nat.le_refl _) H (fun t v hv=>hok v (List.mem_of_getElem? (hget t v hv))) ⟨rfl,fun t v hv=>⟨concV ρ v,by simp [hget t v hv],fun _=>rfl⟩⟩ (zbh trivial fun x hx=>by cases hx) c rfl hchk
 refine wp_mono this fun e a w he=>?_
 cases e<;>exact he
end
end Eng
namespace Eng
def Tri (P:Program) (f:FuncId) (args:List SV) (mem:List MB) (Q:SV→List MB→Prop):Prop :=
 Goes P f∧∀ (w0:World) (own:List Nat) (ρ:Nat→Nat × Nat) (w:World),Sat w0 own ρ mem w→(∀ v∈args,v.ok mem.length) →
  Calls P f (args.map (concV ρ)).toArray w fun e w'=>∃ v mem' ρ',e=.returned (concV ρ' v)∧Q v mem'∧v.ok mem'.length∧mem.length≤mem'.length∧(∀ h,h<mem.length→ρ h=ρ' h)∧Sat w0 own ρ' mem' w'
section
variable {P:Program} {T:List (TypeId × TI)}
theorem Tri.mono {f:FuncId} {args:List SV} {mem:List MB} {Q Q':SV→List MB→Prop} (h:Tri P f args mem Q) (hQ:∀ v mem',Q v mem'→Q' v mem'):Tri P f args mem Q' :=
 ⟨h.1,fun w0 own ρ w H ha=>(h.2 w0 own ρ w H ha).mono fun e w' ⟨v,mem',ρ',h1,h2,h3⟩=>⟨v,mem',ρ',h1,hQ v mem' h2,h3⟩⟩
theorem qc3 (hT:TabOk P T) (hm:P.follows .mixedOrders=true) {f:FuncId} {fn:Func} {c:Code} {D:Ords} {args:List SV} {mem:List MB} {Q:SV→List MB→Prop} (n:Nat) (hf:P.funcs[f]?=some fn) (hb:fn.body=some c) (hgo:Goes P f) (hchk:codeChk D c=true) {tm:List SV} (htm:tm=args++List.replicate (fn.ntmps-args.length) (.one (.val undef)))
 (h:∀ (w0:World) (own:List Nat) (ps:List (Nat × Nat)) (R:Ending→World→Prop),ps.length=mem.length→(∀ (v:SV) (mem':List MB),v.ok mem'.length→mem.length≤mem'.length→Q v mem'→∀ ρ w,(∀ (h:Nat) p,ps[h]?=some p→ρ h=p)→Sat w0 own ρ mem' w→R (.returned (concV ρ v)) w) →
  Good ⟨P,T,D,fn,w0,own,ps,fun _ _ _=>False⟩ R ⟨[.code (stripC c)],tfrom .nil 0 tm,mem⟩):Tri P f args mem Q:=by
 refine ⟨hgo,fun w0 own ρ w H hargs=>?_⟩
 have hps:∀ h,h<mem.length→((List.range mem.length).map ρ)[h]?=some (ρ h):=fun h hh=>by simp [hh]
 obtain ⟨ps,hpe⟩:∃ q,q=(List.range mem.length).map ρ:=⟨_,rfl⟩;rw [←hpe] at hps
 have hpl:ps.length=mem.length:=by rw [hpe];simp
 have hρp:∀ (h:Nat) p,ps[h]?=some p→ρ h=p:=fun h p hp=>by
  have hh:=(List.getElem?_eq_some_iff.1 hp).1
  rw [hpl] at hh;rw [hps h hh] at hp;exact Option.some.inj hp
 have hg:=h w0 own ps (fun e w'=>∃ v mem' ρ',e=.returned (concV ρ' v)∧Q v mem'∧v.ok mem'.length∧mem.length≤mem'.length∧(∀ h,h<mem.length→ρ h=ρ' h)∧Sat w0 own ρ' mem' w') hpl fun v mem' hvok hle hQ ρ' w' hρ' H' =>
  ⟨v,mem',ρ',rfl,hQ,hvok,hle,fun h hh=>(hρ' h _ (hps h hh)).symm,H'⟩
 refine calls_of_wp hf hb ?_
 have hsz:((args.map (concV ρ)).toArray).size=args.length:=by simp
 have ha':((args.map (concV ρ)).toArray++Array.replicate (fn.ntmps-((args.map (concV ρ)).toArray).size) undef)=(tm.map (concV ρ)).toArray:=by
  rw [htm,hsz];refine Array.ext' ?_;rw [List.map_append,List.map_replicate];simp [concV,conc1]
 rw [ha']
 have hget:∀ t v,tget (tfrom .nil 0 tm) t=some v→tm[t]?=some v:=fun t v hv=>by
  rcases zgk tm .nil 0 t v hv with ⟨_,h2⟩|h2
  ·simpa using h2
  ·simp [tget] at h2
 have hok:∀ v∈tm,v.ok mem.length:=fun v hv=>by
  rw [htm] at hv
  rcases List.mem_append.1 hv with h1|h1
  ·exact hargs v h1
  ·rw [(List.mem_replicate.1 h1).2];trivial
 have hE':Env.Ok ⟨P,T,D,fn,w0,own,ps,fun _ _ _=>False⟩:=⟨hT,hm⟩
 have:=hg ρ w ⟨(tm.map (concV ρ)).toArray,[]⟩ hρp (by rw [←hpl];exact Nat.le_refl _) H (fun t v hv=>hok v (List.mem_of_getElem? (hget t v hv))) ⟨rfl,fun t v hv=>⟨concV ρ v,by simp [hget t v hv],fun _=>rfl⟩⟩ (zbh trivial fun x hx=>by cases hx) c rfl hchk
 refine wp_mono this fun e a w he=>?_
 cases e<;>exact he
end
inductive VW where
 | same (h:Nat)
 | rd (x:S1)
def setLen (m:Nat):S1→S1
 | .slc h b _ c=>.slc h b m c
 | .gsl h _=>.gsl h m
 | .rsl h _=>.rsl h m
 | .val (.slice none _ 0)=>.val (.slice none m 0)
 | x=>x
def vwH (l:List VW) (n:Nat) (i:Nat):Nat:=match nth l i with
 | some (VW.same h)=>h
 | some (VW.rd _)=>0
 | none=>n+(i-len l)
def vwS (l:List VW) (n:Nat):S1→S1
 | .val v=>.val v
 | .ptr h b o=>.ptr (vwH l n h) b o
 | .slc h b m c=>.slc (vwH l n h) b m c
 | .gsl h m=>.gsl (vwH l n h) m
 | .clo g hs=>.clo g (hs.map (vwH l n))
 | .gptr h b o=>.gptr (vwH l n h) b o
 | .rsl h m => match nth l h with
   | some (VW.rd x)=>setLen m x
   | _=>.rsl (vwH l n h) m
 | .rptr h b o=>.rptr (vwH l n h) b o
 | .bnd g h=>.bnd g (vwH l n h)
def noRd (l:List VW) (i:Nat):Bool:=match nth l i with
 | some (VW.rd _)=>false
 | _=>true
def clS (l:List VW):S1→Bool
 | .val _=>true
 | .ptr h _ _=>noRd l h
 | .slc h _ _ _=>noRd l h
 | .gsl h _=>noRd l h
 | .clo _ hs=>hs.all (noRd l)
 | .gptr h _ _=>noRd l h
 | .rsl _ _=>true
 | .rptr h _ _=>noRd l h
 | .bnd _ h=>noRd l h
def clL (l:List VW):List S1→Bool
 | []=>true
 | x::r=>bif clS l x then clL l r else false
def clT (l:List VW):List TV→Bool
 | []=>true
 | .one x::r=>bif clS l x then clT l r else false
 | .agg x::r=>bif clL l x then clT l r else false
def clV (l:List VW):SV→Bool
 | .one x=>clS l x
 | .agg x=>clL l x
 | .tup x=>clT l x
 | .any=>false
def clB (l:List VW):MB→Bool
 | .own _ x=>clL l x
 | .ro x=>clL l x
 | _=>true
def clM (l:List VW):List MB→Bool
 | []=>true
 | b::r=>bif clB l b then clM l r else false
def clA (l:List VW):List SV→Bool
 | []=>true
 | v::r=>bif clV l v then clA l r else false
def mapVs (g:S1→S1):List SV→List SV
 | []=>[]
 | v::r=>mapV g v::mapVs g r
theorem zhj (g:S1→S1):∀ l:List SV,mapVs g l=l.map (mapV g)
 | []=>rfl
 | x::l=>by simp [mapVs,zhj g l]
theorem zbs {l:List VW}:∀ {x:List S1},clL l x=true→∀ y∈x,clS l y=true
 | [],_,y,hy=>by cases hy
 | z :: x, h, y, hy => by
   obtain ⟨h1,h2⟩:=cond_true' h
   rcases List.mem_cons.1 hy with rfl|hy
   ·exact h1
   ·exact zbs h2 y hy
where cond_true' {a b:Bool} (h:(bif a then b else false)=true):a=true∧b=true:=by cases a<;>simp_all
theorem zlk {l:List VW}:∀ {x:List MB},clM l x=true→∀ y∈x,clB l y=true
 | [],_,y,hy=>by cases hy
 | z :: x, h, y, hy => by
   obtain ⟨h1,h2⟩:=zbs.cond_true' h
   rcases List.mem_cons.1 hy with rfl|hy
   ·exact h1
   ·exact zlk h2 y hy
theorem zxk {l:List VW}:∀ {x:List SV},clA l x=true→∀ y∈x,clV l y=true
 | [],_,y,hy=>by cases hy
 | z :: x, h, y, hy => by
   obtain ⟨h1,h2⟩:=zbs.cond_true' h
   rcases List.mem_cons.1 hy with rfl|hy
   ·exact h1
   ·exact zxk h2 y hy
section
variable {ρ ρ':Nat→Nat × Nat} {l:List VW} {g:S1→S1}
def SubC (ρ ρ':Nat→Nat × Nat) (l:List VW) (n:Nat) (g:S1→S1):Prop:=∀ x:S1,x.ok n→clS l x=true→conc1 ρ (g x)=conc1 ρ' x
variable {n:Nat}
theorem zfq (hg:SubC ρ ρ' l n g) {x:List S1} (hx:∀ y∈x,y.ok n) (hc:clL l x=true):(map1s g x).map (conc1 ρ)=x.map (conc1 ρ'):=by
 rw [za6,List.map_map]
 exact List.map_congr_left fun y hy=>hg y (hx y hy) (zbs hc y hy)
theorem zp4 (hg:SubC ρ ρ' l n g):∀ {v:SV},v.ok n→clV l v=true→concV ρ (mapV g v)=concV ρ' v
 | .one x,h,hc=>hg x h hc
 | .agg x,h,hc=>by simp only [mapV,concV,zfq hg h hc]
 | .tup x, h, hc => by
   simp only [mapV,concV]
   have key:∀ x:List TV,(∀ y∈x,y.ok n)→clT l x=true→(mapTs g x).map (concT ρ)=x.map (concT ρ'):=by
    intro x
    induction x with
    | nil=>intro _ _;rfl
    | cons y r ih =>
      intro h hc
      cases y with
      | one z =>
        obtain ⟨h1,h2⟩:=zbs.cond_true' hc
        simp only [mapTs,List.map_cons,mapT,concT,hg z (h (.one z) (by simp)) h1,ih (fun y hy=>h y (by simp [hy])) h2]
      | agg z =>
        obtain ⟨h1,h2⟩:=zbs.cond_true' hc
        simp only [mapTs,List.map_cons,mapT,concT,zfq hg (h (.agg z) (by simp)) h1,ih (fun y hy=>h y (by simp [hy])) h2]
   rw [key x h hc]
 | .any,_,hc=>by cases hc
theorem zvl (hg:SubC ρ ρ' l n g) {w:World} {p:Nat × Nat} {b:MB} (hb:b.ok n) (hc:clB l b=true) (h:BlkAt ρ w p (mapB g b)):BlkAt ρ' w p b:=by
 cases b with
 | own t x=>exact ⟨h.1,by rw [←zfq hg hb hc];exact h.2⟩
 | ro x =>
   intro j y hy;rw [←hg y (hb y (List.mem_of_getElem? hy)) (zbs hc y (List.mem_of_getElem? hy))]
   exact h j (g y) (by rw [za6];simp [hy])
 | _=>exact h
theorem zrt (hg:SubC ρ ρ' l n g) {w:World} {p:Nat × Nat} {b:MB} (hb:b.ok n) (hc:clB l b=true) (h:BlkAt ρ' w p b):BlkAt ρ w p (mapB g b):=by
 cases b with
 | own t x=>exact ⟨h.1,by rw [zfq hg hb hc];exact h.2⟩
 | ro x =>
   intro j y hy;rw [za6,List.getElem?_map,Option.map_eq_some_iff] at hy;obtain ⟨z,hz,rfl⟩:=hy;rw [hg z (hb z (List.mem_of_getElem? hz)) (zbs hc z (List.mem_of_getElem? hz))];exact h j z hz
 | _=>exact h
end
def hdl:S1→Option Nat
 | .slc h _ _ _=>some h
 | .gsl h _=>some h
 | .rsl h _=>some h
 | _=>none
def rdOk (mem:List MB) (m:Nat) (l:List Value):S1→Prop
 | .slc h b m' c => m' = m ∧ m ≤ c ∧ (∀ u ∈ l, u.oneCell' = true) ∧ match nth mem h with
   | some (.own _ xs)=>∃ r1 r2,xs=r1++vals l++r2∧r1.length=b
   | some (.ro xs)=>∃ r1 r2,xs=r1++vals l++r2∧r1.length=b
   | some (.sym _ xs)=>∃ r1 r2,xs=r1++l++r2∧r1.length=b
   | some (.rsym xs)=>∃ r1 r2,xs=r1++l++r2∧r1.length=b
   | _=>False
 | .gsl h m' => m' = m ∧ match nth mem h with
   | some (.grow _ _ k xs)=>k=m∧xs=l
   | _=>False
 | .rsl h m' => m' = m ∧ match nth mem h with
   | some (.rs k xs)=>m≤k∧∃ r,xs=l++r
   | _=>False
 | .val (.slice none k c)=>k=m∧m=0∧c=0∧l=[]
 | _=>False
theorem zoy {w0:World} {own:List Nat} {ρ:Nat→Nat × Nat} {mem:List MB} {w:World} (H:Sat w0 own ρ mem w) {m:Nat} {l:List Value} {x:S1} (hr:rdOk mem m l x) :
 ∃ p,(∀ k,rslV p k=conc1 ρ (setLen k x))∧BlkAt ρ w p (.rs m l)∧∀ i,MB.rf p i (.rs m l)→∃ h b,hdl x=some h∧mem[h]?=some b∧(b.wf (ρ h) i∨b.rf (ρ h) i):=by
 cases x with
 | val v =>
   unfold rdOk at hr
   split at hr
   all_goals try (exact hr.elim)
   all_goals try (rename_i he;cases he;done)
   ·rename_i k c he
    cases he
    obtain ⟨rfl,rfl,rfl,rfl⟩:=hr
    exact ⟨(0,0),fun k=>rfl,⟨.inr ⟨rfl,rfl⟩,fun j v hv=>by simp at hv,by simp⟩,fun i hi=>by cases hi.1⟩
 | slc h b m' c =>
   obtain ⟨rfl,hc,hone,hr⟩:=hr;obtain ⟨q,hq⟩:=zlg ((ρ h).2+b) c
   have e1:off ((ρ h).1,q+1)=(ρ h).2+b:=by simp [off,hq]
   have e2:room ((ρ h).1,q+1)=c:=by simp [room,hq]
   have fin:(∀ (j:Nat) v,l[j]?=some v→w.cell? ⟨(ρ h).1,(ρ h).2+b+j,none⟩=some v)→(∀ i,l≠[]→i=(ρ h).1→∃ bk,mem[h]?=some bk∧(bk.wf (ρ h) i∨bk.rf (ρ h) i)) →
    ∃ p:Nat × Nat,(∀ k,rslV p k=conc1 ρ (setLen k (.slc h b m' c)))∧BlkAt ρ w p (.rs m' l)∧∀ i,MB.rf p i (.rs m' l)→∃ (h1:Nat) (b1:MB),hdl (.slc h b m' c)=some h1∧mem[h1]?=some b1∧(b1.wf (ρ h1) i∨b1.rf (ρ h1) i):=fun hcl hf=>⟨((ρ h).1,q+1),fun k=>by simp [rslV,hq,setLen,conc1],⟨.inl (by rw [e2];exact hc),fun j v hv=>by rw [e1];exact hcl j v hv,hone⟩,fun i hi=>by
    obtain ⟨bk,h1,h2⟩:=hf i (by rintro rfl;cases hi.1) hi.2
    exact ⟨h,bk,rfl,h1,h2⟩⟩
   rw [zak] at hr
   split at hr
   ·rename_i t xs hb
    obtain ⟨r1,r2,rfl,rfl⟩:=hr
    have hat:=zih (H.blk h _ hb)
    refine fin (fun j v hv=>?_) fun i _ hi=>⟨_,hb,.inl ⟨rfl,hi⟩⟩
    have:=hat (r1.length+j) (.val v) (by rw [List.append_assoc,List.getElem?_append_right (by omega),Nat.add_sub_cancel_left,List.getElem?_append_left (by simp [zbg];exact (List.getElem?_eq_some_iff.1 hv).1)];simp [zbg,hv])
    rw [Nat.add_assoc];exact this
   ·rename_i xs hb
    obtain ⟨r1,r2,rfl,rfl⟩:=hr
    have hat:=H.blk h _ hb
    refine fin (fun j v hv=>?_) fun i _ hi=>⟨_,hb,.inr ⟨rfl,hi⟩⟩
    have:=hat (r1.length+j) (.val v) (by rw [List.append_assoc,List.getElem?_append_right (by omega),Nat.add_sub_cancel_left,List.getElem?_append_left (by simp [zbg];exact (List.getElem?_eq_some_iff.1 hv).1)];simp [zbg,hv])
    rw [Nat.add_assoc];exact this
   ·rename_i t xs hb
    obtain ⟨r1,r2,rfl,rfl⟩:=hr
    have hat:=zh7 (H.blk h _ hb)
    refine fin (fun j v hv=>?_) fun i _ hi=>⟨_,hb,.inl ⟨rfl,hi⟩⟩
    have:=hat (r1.length+j) v (by rw [List.append_assoc,List.getElem?_append_right (by omega),Nat.add_sub_cancel_left,List.getElem?_append_left (List.getElem?_eq_some_iff.1 hv).1];exact hv)
    rw [Nat.add_assoc];exact this
   ·rename_i xs hb
    obtain ⟨r1,r2,rfl,rfl⟩:=hr
    have hat:=zgo (H.blk h _ hb)
    refine fin (fun j v hv=>?_) fun i _ hi=>⟨_,hb,.inr ⟨rfl,hi⟩⟩
    have:=hat (r1.length+j) v (by rw [List.append_assoc,List.getElem?_append_right (by omega),Nat.add_sub_cancel_left,List.getElem?_append_left (List.getElem?_eq_some_iff.1 hv).1];exact hv)
    rw [Nat.add_assoc];exact this
   ·exact hr.elim
 | gsl h m' =>
   obtain ⟨rfl,hr⟩:=hr;rw [zak] at hr
   split at hr
   ·rename_i t z k xs hb
    obtain ⟨rfl,rfl⟩:=hr
    have hat:=H.blk h _ hb
    by_cases hp:(ρ h).2=0
    ·have hn:k=0:=by
      rcases hat.1.2 with ⟨_,h1⟩|⟨g,cap,cur,e,_⟩
      ·exact h1
      ·simp [gslV,hp] at e
     subst hn
     have hx:xs=[]:=List.eq_nil_of_length_eq_zero (by simpa using hat.1.1)
     subst hx
     exact ⟨((ρ h).1,0),fun k=>by simp [rslV,setLen,conc1,gslV,hp],⟨.inr ⟨rfl,rfl⟩,fun j v hv=>by simp at hv,by simp⟩,fun i hi=>by cases hi.1⟩
    ·obtain ⟨q,hq⟩:=zlg 0 ((ρ h).2-1)
     have hk:k≤(ρ h).2-1:=by
      rcases hat.1.2 with ⟨_,h1⟩|⟨g,cap,cur,e,_,_,hnc,_⟩
      ·omega
      ·revert e
       unfold gslV
       split
       ·intro e;simp at e
       ·rename_i c hc
        intro e;simp only [Value.slice.injEq] at e;omega
     refine ⟨((ρ h).1,q+1),fun k=>?_,⟨.inl (by simp [room,hq];exact hk),fun j v hv=>?_,hat.2⟩,fun i hi=>⟨h,_,rfl,hb,.inl ⟨by simp [MB.wr,hp],hi.2⟩⟩⟩
     ·simp only [rslV,hq,setLen,conc1,gslV]
      split
      ·rename_i h0;exact absurd h0 hp
      ·rename_i c hc;rw [hc];rfl
     ·have:=zj5 hat j v hv
      simpa [off,hq] using this
   ·exact hr.elim
 | rsl h m' =>
   obtain ⟨rfl,hr⟩:=hr;rw [zak] at hr
   split at hr
   ·rename_i k xs hb
    obtain ⟨hk,r,rfl⟩:=hr
    have hat:=H.blk h _ hb
    refine ⟨ρ h,fun k=>rfl,⟨hat.1.imp (fun h=>Nat.le_trans hk h) fun h=>⟨by omega,h.2⟩,fun j v hv=>hat.2.1 j v (by rw [List.getElem?_append_left (List.getElem?_eq_some_iff.1 hv).1];exact hv),fun u hu=>hat.2.2 u (by simp [hu])⟩,fun i hi=>⟨h,_,rfl,hb,.inr ⟨?_,hi.2⟩⟩⟩
    cases l with
    | nil=>cases hi.1
    | cons y l=>rfl
   ·exact hr.elim
 | _=>exact hr.elim
def sameH:List VW→List Nat
 | []=>[]
 | .same h::l=>h::sameH l
 | .rd _::l=>sameH l
def views (mem:List MB) (all:List VW) (n:Nat):List VW→List MB→Prop
 | [],[]=>True
 | .same h::l,b::r=>nth mem h=some (mapB (vwS all n) b)∧views mem all n l r
 | .rd x::l,b::r=>(match b with | .rs m xs=>rdOk mem m xs x|_=>False)∧(match hdl x with|some h=>inL (sameH all) h=false|none=>True)∧views mem all n l r
 | _,_=>False
def upd (all:List VW) (n:Nat):List MB→List VW→List MB→List MB
 | mem,[],r=>mem++mapBs (vwS all n) r
 | mem,.same h::l,b::r=>upd all n (setAt mem h (mapB (vwS all n) b)) l r
 | mem,.rd _::l,_::r=>upd all n mem l r
 | mem,_::_,[]=>mem
def rdSame:List MB→List MB→Prop
 | [],_=>True
 | b::r,[]=>b.rd=false∧rdSame r []
 | b::r,c::s=>(b.rd=false∨b=c)∧rdSame r s
theorem zdd {l:List VW} {h:Nat}:h∈sameH l↔∃ i:Nat,l[i]?=some (VW.same h):=by
 induction l with
 | nil=>simp [sameH]
 | cons v l ih =>
   cases v with
   | same k =>
     simp only [sameH,List.mem_cons,ih]
     constructor
     ·rintro (rfl|⟨i,hi⟩)
      ·exact ⟨0,rfl⟩
      ·exact ⟨i+1,by simpa using hi⟩
     ·rintro ⟨i,hi⟩
      cases i with
      | zero=>left;simpa using hi.symm
      | succ i=>right;exact ⟨i,by simpa using hi⟩
   | rd x =>
     simp only [sameH,ih]
     constructor
     ·rintro ⟨i,hi⟩;exact ⟨i+1,by simpa using hi⟩
     ·rintro ⟨i,hi⟩
      cases i with
      | zero=>simp at hi
      | succ i=>exact ⟨i,by simpa using hi⟩
theorem zkt:∀ {l:List VW},distinct (sameH l)=true→∀ {i j h:Nat},l[i]?=some (VW.same h)→l[j]?=some (VW.same h)→i=j
 | [],_,i,j,h,hi,_=>by simp at hi
 | .rd x :: l, hd, i, j, h, hi, hj => by
   cases i<;>cases j<;>try (simp at hi;done)
   ·simp at hj
   ·rename_i i j;exact congrArg (·+1) (zkt (l:=l) hd (show l[i]?=some (VW.same h) by simpa using hi) (show l[j]?=some (VW.same h) by simpa using hj))
 | .same k :: l, hd, i, j, h, hi, hj => by
   simp only [sameH,distinct,Bool.and_eq_true] at hd
   have hno:∀ i:Nat,l[i]?≠some (VW.same k):=fun i hi=>by
    have:=zds.2 (zdd.2 ⟨i,hi⟩)
    rw [this] at hd
    exact absurd hd.1 (by simp)
   cases i<;>cases j
   ·rfl
   ·rename_i j
    obtain rfl:k=h:=by simpa using hi
    exact absurd (show l[j]?=some (VW.same k) by simpa using hj) (hno j)
   ·rename_i i
    obtain rfl:k=h:=by simpa using hj
    exact absurd (show l[i]?=some (VW.same k) by simpa using hi) (hno i)
   ·rename_i i j;exact congrArg (·+1) (zkt (l:=l) hd.2 (show l[i]?=some (VW.same h) by simpa using hi) (show l[j]?=some (VW.same h) by simpa using hj))
theorem zdv {mem:List MB} {all:List VW} {n:Nat}:∀ {l:List VW} {m:List MB},views mem all n l m→l.length=m.length∧∀ (i:Nat) (b:MB),m[i]?=some b→(∃ h,l[i]?=some (VW.same h)∧mem[h]?=some (mapB (vwS all n) b))∨∃ x k xs,l[i]?=some (VW.rd x)∧b=.rs k xs∧rdOk mem k xs x∧∀ h,hdl x=some h→h ∉ sameH all
 | [],[],_=>⟨rfl,fun i b hb=>by simp at hb⟩
 | .same h :: l, b :: m, hv => by
   obtain ⟨h1,h2⟩:=zdv hv.2
   refine ⟨by simp [h1],fun i c hc=>?_⟩
   cases i with
   | zero =>
     obtain rfl:b=c:=by simpa using hc
     exact .inl ⟨h,rfl,by rw [←zak];exact hv.1⟩
   | succ i=>simpa using h2 i c (by simpa using hc)
 | .rd x :: l, b :: m, hv => by
   obtain ⟨h1,h2⟩:=zdv hv.2.2
   refine ⟨by simp [h1],fun i c hc=>?_⟩
   cases i with
   | zero =>
     obtain rfl:b=c:=by simpa using hc
     have h3:=hv.1
     split at h3
     ·rename_i k xs
      refine .inr ⟨x,k,xs,rfl,rfl,h3,fun h hh hm=>?_⟩
      have h4:=hv.2.1
      simp only [hh] at h4;rw [zds.2 hm] at h4
      cases h4
     ·exact h3.elim
   | succ i=>simpa using h2 i c (by simpa using hc)
 | [],_::_,hv=>hv.elim
 | .same _::_,[],hv=>hv.elim
 | .rd _::_,[],hv=>hv.elim
theorem znz {all:List VW} {n:Nat}:∀ {l:List VW} {mem r:List MB},l.length≤r.length→(upd all n mem l r).length=mem.length+(r.length-l.length)
 | [],mem,r,_=>by simp [upd,zbq]
 | .same h::l,mem,b::r,hl=>by simp only [upd];rw [znz (by simpa using hl)];simp [zaf]
 | .rd x::l,mem,b::r,hl=>by simp only [upd];rw [znz (by simpa using hl)];simp
 | .same h::l,mem,[],hl=>by simp at hl
 | .rd x::l,mem,[],hl=>by simp at hl
theorem ze4 {all:List VW} {n:Nat}:∀ {l:List VW} {mem r:List MB},l.length≤r.length→distinct (sameH l)=true→∀ (k:Nat) (b:MB),(upd all n mem l r)[k]?=some b →
 (k<mem.length∧k ∉ sameH l∧mem[k]?=some b)∨(∃ (i:Nat) (c:MB),l[i]?=some (VW.same k)∧r[i]?=some c∧b=mapB (vwS all n) c)∨(mem.length≤k∧∃ c,r[l.length+(k-mem.length)]?=some c∧b=mapB (vwS all n) c)
 | [], mem, r, _, _, k, b, hb => by
   simp only [upd] at hb
   rcases Nat.lt_or_ge k mem.length with h1|h1
   ·rw [List.getElem?_append_left h1] at hb
    exact .inl ⟨h1,by simp [sameH],hb⟩
   ·rw [List.getElem?_append_right h1,zbq,List.getElem?_map,Option.map_eq_some_iff] at hb
    obtain ⟨c,hc,rfl⟩:=hb
    exact .inr (.inr ⟨h1,c,by simpa using hc,rfl⟩)
 | .same h :: l, mem, c :: r, hl, hd, k, b, hb => by
   simp only [sameH,distinct,Bool.and_eq_true] at hd
   have hno:h ∉ sameH l:=fun hm=>by rw [zds.2 hm] at hd;exact absurd hd.1 (by simp)
   simp only [upd] at hb
   have hml:(setAt mem h (mapB (vwS all n) c)).length=mem.length:=by simp [zaf]
   rcases ze4 (by simpa using hl) hd.2 k b hb with ⟨h1,h2,h3⟩|⟨i,d,h1,h2,h3⟩|⟨h1,d,h2,h3⟩
   ·rw [hml] at h1
    by_cases e:k=h
    ·subst e
     rw [zaf,List.getElem?_set_self h1] at h3;exact .inr (.inl ⟨0,c,rfl,rfl,(Option.some.inj h3).symm⟩)
    ·rw [zaf,List.getElem?_set_ne (Ne.symm e)] at h3
     exact .inl ⟨h1,by simp [sameH,h2,e],h3⟩
   ·exact .inr (.inl ⟨i+1,d,by simpa using h1,by simpa using h2,h3⟩)
   ·rw [hml] at h1 h2
    exact .inr (.inr ⟨h1,d,by rw [show (VW.same h::l).length+(k-mem.length)=(l.length+(k-mem.length))+1 by simp;omega];simpa using h2,h3⟩)
 | .rd x :: l, mem, c :: r, hl, hd, k, b, hb => by
   simp only [upd] at hb
   rcases ze4 (by simpa using hl) (show distinct (sameH l)=true from hd) k b hb with ⟨h1,h2,h3⟩|⟨i,d,h1,h2,h3⟩|⟨h1,d,h2,h3⟩
   ·exact .inl ⟨h1,h2,h3⟩
   ·exact .inr (.inl ⟨i+1,d,by simpa using h1,by simpa using h2,h3⟩)
   ·exact .inr (.inr ⟨h1,d,by rw [show (VW.rd x::l).length+(k-mem.length)=(l.length+(k-mem.length))+1 by simp;omega];simpa using h2,h3⟩)
 | .same h::l,mem,[],hl,_,_,_,_=>by simp at hl
 | .rd x::l,mem,[],hl,_,_,_,_=>by simp at hl
theorem zgp:∀ {r s:List MB},rdSame r s→∀ (i:Nat) (b:MB),r[i]?=some b→b.rd=true→s[i]?=some b
 | [],s,_,i,b,hb,_=>by simp at hb
 | c :: r, [], h, i, b, hb, hr => by
   cases i with
   | zero =>
     obtain rfl:c=b:=by simpa using hb
     rw [h.1] at hr
     cases hr
   | succ i=>exact absurd (zgp h.2 i b (by simpa using hb) hr) (by simp)
 | c :: r, d :: s, h, i, b, hb, hr => by
   cases i with
   | zero =>
     obtain rfl:c=b:=by simpa using hb
     rcases h.1 with h1|rfl
     ·rw [h1] at hr;cases hr
     ·rfl
   | succ i=>simpa using zgp h.2 i b (by simpa using hb) hr
theorem zcs {P:Program} {f:FuncId} {args0:List SV} {mem mem0:List MB} {Q:SV→List MB→Prop} (vw:List VW) (ht:Tri P f args0 mem0 Q) (hv:views mem vw mem.length vw mem0) (hd:distinct (sameH vw)=true) (hcl:clM vw mem0=true) (hok:∀ b∈mem0,b.ok mem0.length) (hca:clA vw args0=true) (hao:∀ v∈args0,v.ok mem0.length)
 (hQ:∀ v m,Q v m→clV vw v=true∧clM vw m=true∧rdSame m mem0) :
 ∀ (w0:World) (own:List Nat) (ρ:Nat→Nat × Nat) (w:World),Sat w0 own ρ mem w→Calls P f ((mapVs (vwS vw mem.length) args0).map (concV ρ)).toArray w fun e w'=>∃ v m ρ',e=.returned (concV ρ' (mapV (vwS vw mem.length) v))∧Q v m∧(mapV (vwS vw mem.length) v).ok (upd vw mem.length mem vw m).length∧mem.length≤(upd vw mem.length mem vw m).length∧(∀ h,h<mem.length→ρ h=ρ' h)∧Sat w0 own ρ' (upd vw mem.length mem vw m) w':=by
 intro w0 own ρ w H;obtain ⟨hlen,hget⟩:=zdv hv
 have hex:∀ i:Nat,∃ p:Nat × Nat,(∀ h,vw[i]?=some (VW.same h)→p=ρ h)∧∀ x k xs,vw[i]?=some (VW.rd x)→mem0[i]?=some (.rs k xs)→(∀ m,rslV p m=conc1 ρ (setLen m x))∧BlkAt ρ w p (.rs k xs)∧∀ j,MB.rf p j (.rs k xs)→∃ h b,hdl x=some h∧mem[h]?=some b∧(b.wf (ρ h) j∨b.rf (ρ h) j):=fun i=>by
  cases hi:vw[i]? with
  | none=>exact ⟨(0,0),fun h e=>by simp at e,fun x k xs e=>by simp at e⟩
  | some v =>
    cases v with
    | same h=>exact ⟨ρ h,fun h' e=>by simp at e;rw [e],fun x k xs e=>by simp at e⟩
    | rd x =>
      cases hb:mem0[i]? with
      | none=>exact ⟨(0,0),fun h e=>by simp at e,fun x k xs e e'=>by simp at e'⟩
      | some b =>
        rcases hget i b hb with ⟨h,h1,_⟩|⟨y,k,xs,h1,rfl,h2,_⟩
        ·rw [hi] at h1;simp at h1
        ·rw [hi] at h1
         obtain rfl:x=y:=by simpa using h1
         obtain ⟨p,p1,p2,p3⟩:=zoy H h2
         refine ⟨p,fun h e=>by simp at e,fun x' k' xs' e e'=>?_⟩
         obtain rfl:x=x':=by simpa using e
         obtain ⟨rfl,rfl⟩:k=k'∧xs=xs':=by simpa using e'
         exact ⟨p1,p2,p3⟩
 obtain ⟨ρ0,hρ0⟩:=Classical.skolem.1 hex
 have hlt:∀ (i h:Nat),vw[i]?=some (VW.same h)→h<mem.length:=fun i h hi=>by
  have h1:=(List.getElem?_eq_some_iff.1 hi).1
  obtain ⟨b,hb⟩:∃ b,mem0[i]?=some b:=⟨_,List.getElem?_eq_getElem (by omega)⟩
  rcases hget i b hb with ⟨h',h2,h3⟩|⟨y,k,xs,h2,_⟩
  ·rw [hi] at h2
   obtain rfl:h=h':=by simpa using h2
   exact (List.getElem?_eq_some_iff.1 h3).1
  ·rw [hi] at h2;simp at h2
 have hhdl:∀ (i:Nat) (x:S1) (m:Nat),vw[i]?=some (VW.rd x)→(setLen m x).ok mem.length:=fun i x m hi=>by
  have h1:=(List.getElem?_eq_some_iff.1 hi).1
  obtain ⟨b,hb⟩:∃ b,mem0[i]?=some b:=⟨_,List.getElem?_eq_getElem (by omega)⟩
  rcases hget i b hb with ⟨h',h2,h3⟩|⟨y,k,xs,h2,_,h3,_⟩
  ·rw [hi] at h2;simp at h2
  ·rw [hi] at h2
   obtain rfl:x=y:=by simpa using h2
   obtain ⟨p,_,_,_⟩:=zoy H h3
   cases x with
   | val v =>
     unfold setLen
     split<;>first|trivial|(rename_i e;cases e)|(rename_i e _;cases e;trivial)|skip
     all_goals first|trivial|(simp_all [S1.ok])
   | slc h b c d =>
     obtain ⟨_,_,_,h4⟩:=h3;rw [zak] at h4
     show h<mem.length
     split at h4<;>first|exact h4.elim|(rename_i hbb;exact (List.getElem?_eq_some_iff.1 hbb).1)
   | gsl h c =>
     obtain ⟨_,h4⟩:=h3;rw [zak] at h4
     show h<mem.length
     split at h4<;>first|exact h4.elim|(rename_i hbb;exact (List.getElem?_eq_some_iff.1 hbb).1)
   | rsl h c =>
     obtain ⟨_,h4⟩:=h3;rw [zak] at h4
     show h<mem.length
     split at h4<;>first|exact h4.elim|(rename_i hbb;exact (List.getElem?_eq_some_iff.1 hbb).1)
   | _=>exact h3.elim
 have hsubG:∀ (ρ1 ρ1':Nat→Nat × Nat) (N:Nat),(∀ h,h<mem.length→ρ h=ρ1 h)→(∀ i,i<mem0.length→ρ0 i=ρ1' i)→(∀ j,ρ1 (mem.length+j)=ρ1' (mem0.length+j))→SubC ρ1 ρ1' vw N (vwS vw mem.length):=fun ρ1 ρ1' N e1 e2 e3=>by
  have hh:∀ i,noRd vw i=true→ρ1 (vwH vw mem.length i)=ρ1' i:=fun i hi=>by
   unfold noRd at hi;unfold vwH;rw [zak] at hi ⊢
   cases hvi:vw[i]? with
   | none =>
     have:vw.length≤i:=by simpa using hvi
     simp only [zaq];rw [e3]
     congr 1
     omega
   | some v =>
     rw [hvi] at hi
     cases v with
     | same h =>
       have hil:=(List.getElem?_eq_some_iff.1 hvi).1
       simp only
       rw [←e1 h (hlt i h hvi),←e2 i (by omega),(hρ0 i).1 h hvi]
     | rd x=>cases hi
  intro x _ hc
  cases x with
  | val v=>rfl
  | ptr h b o=>simp only [vwS,conc1,hh h hc]
  | slc h b m c=>simp only [vwS,conc1,hh h hc]
  | gsl h m=>simp only [vwS,conc1,hh h hc]
  | clo g hs =>
    simp only [vwS,conc1,List.map_map]
    rw [List.map_congr_left fun i hi=>by rw [Function.comp,hh i (List.all_eq_true.1 hc i hi)]]
  | gptr h b o=>simp only [vwS,conc1,hh h hc]
  | rptr h b o=>simp only [vwS,conc1,hh h hc]
  | bnd g h=>simp only [vwS,conc1,hh h hc]
  | rsl h m =>
    simp only [vwS];rw [zak]
    split
    ·rename_i x hx
     have hil:=(List.getElem?_eq_some_iff.1 hx).1
     obtain ⟨b,hb⟩:∃ b,mem0[h]?=some b:=⟨_,List.getElem?_eq_getElem (by omega)⟩
     rcases hget h b hb with ⟨h',h2,_⟩|⟨y,k,xs,h2,rfl,_⟩
     ·rw [hx] at h2;simp at h2
     ·rw [←za2 e1 (hhdl h x m hx),←((hρ0 h).2 x k xs hx hb).1 m,e2 h (by omega)]
      rfl
    ·rename_i hx
     have:noRd vw h=true:=by
      unfold noRd;rw [zak]
      split
      ·rename_i x hx';exact absurd hx' (hx x)
      ·rfl
     simp only [conc1,hh h this]
 obtain ⟨own',hown'⟩:∃ own':List Nat,∀ i,i∈own'↔∃ (h:Nat) (b:MB),h∈sameH vw∧mem[h]?=some b∧b.wf (ρ h) i:=by
  classical
  refine ⟨(List.range w.heap.size).filter fun i=>decide (∃ (h:Nat) (b:MB),h∈sameH vw∧mem[h]?=some b∧b.wf (ρ h) i),fun i=>?_⟩
  simp only [List.mem_filter,List.mem_range,decide_eq_true_eq]
  exact ⟨fun h=>h.2,fun ⟨h,b,h1,h2,h3⟩=>⟨H.low h2 (.inl h3),h,b,h1,h2,h3⟩⟩
 have hS0:SubC ρ (fun i=>if i<mem0.length then ρ0 i else ρ (mem.length+(i-mem0.length))) vw mem0.length (vwS vw mem.length):=hsubG _ _ _ (fun _ _=>rfl) (fun i hi=>by simp [hi]) (fun j=>by simp [show ¬ mem0.length+j<mem0.length by omega])
 have hcg:∀ i,i<mem0.length→(fun i=>if i<mem0.length then ρ0 i else ρ (mem.length+(i-mem0.length))) i=ρ0 i:=fun i hi=>by simp [hi]
 have same_wf:∀ (i h:Nat) (b:MB) (j:Nat),vw[i]?=some (VW.same h)→(mapB (vwS vw mem.length) b).wf (ρ h) j=b.wf (ρ0 i) j∧(mapB (vwS vw mem.length) b).rf (ρ h) j=b.rf (ρ0 i) j:=fun i h b j hi=>by
  rw [(hρ0 i).1 h hi];exact ⟨propext zbt,propext zd2⟩
 have hsm:Sat w own' ρ0 mem0 w:=by
  refine ⟨Gr.refl _ _,fun i b hb=>?_,hok,fun i b hb=>⟨fun j hj=>?_,fun j hj=>?_⟩,fun i k b c hb hc hne j hw=>?_⟩
  ·rcases hget i b hb with ⟨h,h1,h2⟩|⟨x,k,xs,h1,rfl,_⟩
   ·rw [(hρ0 i).1 h h1]
    exact BlkAt.congr hcg (hok b (List.mem_of_getElem? hb)) (zvl hS0 (hok b (List.mem_of_getElem? hb)) (zlk hcl b (List.mem_of_getElem? hb)) (H.blk h _ h2))
   ·exact ((hρ0 i).2 x k xs h1 hb).2.1
  ·rcases hget i b hb with ⟨h,h1,h2⟩|⟨x,k,xs,h1,rfl,_⟩
   ·rw [←(same_wf i h b j h1).1] at hj
    exact .inl ((hown' j).2 ⟨h,_,zdd.2 ⟨i,h1⟩,h2,hj⟩)
   ·cases hj.1
  ·rcases hget i b hb with ⟨h,h1,h2⟩|⟨x,k,xs,h1,rfl,_⟩
   ·rw [←(same_wf i h b j h1).2] at hj
    exact H.low h2 (.inr hj)
   ·obtain ⟨h,c,_,h3,h4⟩:=((hρ0 i).2 x k xs h1 hb).2.2 j hj
    exact H.low h3 h4
  ·rcases hget i b hb with ⟨h,h1,h2⟩|⟨x,q,xs,h1,rfl,_⟩
   ·rw [←(same_wf i h b j h1).1] at hw
    rcases hget k c hc with ⟨h',k1,k2⟩|⟨x,q,xs,k1,rfl,_,k3⟩
    ·have hne':h≠h':=fun e=>hne (by subst e;exact zkt hd h1 k1)
     have:=H.apt h h' _ _ h2 k2 hne' j hw
     rw [(same_wf k h' c j k1).1,(same_wf k h' c j k1).2] at this;exact this
    ·refine ⟨fun hh=>(by cases hh.1),fun hh=>?_⟩
     obtain ⟨h',d,e1,e2,e3⟩:=((hρ0 k).2 x q xs k1 hc).2.2 j hh
     have hne':h≠h':=fun e=>k3 h' e1 (by rw [←e];exact zdd.2 ⟨i,h1⟩)
     have:=H.apt h h' _ _ h2 e2 hne' j hw
     exact e3.elim this.1 this.2
   ·cases hw.1
 have hargs:(mapVs (vwS vw mem.length) args0).map (concV ρ)=args0.map (concV ρ0):=by
  rw [zhj,List.map_map]
  refine List.map_congr_left fun v hv=>?_
  rw [Function.comp,zp4 hS0 (hao v hv) (zxk hca v hv)];exact zaz hcg (hao v hv)
 rw [hargs];refine (ht.2 w own' ρ0 w hsm hao).mono ?_
 rintro e w' ⟨v,m,ρ1',rfl,hQv,hvok,hle,hρ1,H1⟩
 obtain ⟨c1,c2,c3⟩:=hQ v m hQv
 have hml:vw.length≤m.length:=by omega
 have hul:=znz (all:=vw) (n:=mem.length) (mem:=mem) hml
 let ρ1:Nat→Nat × Nat:=fun h=>if h<mem.length then ρ h else ρ1' (mem0.length+(h-mem.length))
 have r1:∀ h,h<mem.length→ρ h=ρ1 h:=fun h hh=>by simp [ρ1,hh]
 have r2:∀ j,ρ1 (mem.length+j)=ρ1' (mem0.length+j):=fun j=>by
  have h9:¬ mem.length+j<mem.length:=by omega
  simp [ρ1,h9]
 have hS1:∀ N,SubC ρ1 ρ1' vw N (vwS vw mem.length):=fun N=>hsubG _ _ _ r1 hρ1 r2
 have okS:∀ x:S1,x.ok m.length→clS vw x=true→(vwS vw mem.length x).ok (upd vw mem.length mem vw m).length:=fun x hx hc=>by
  have hh:∀ i,noRd vw i=true→i<m.length→vwH vw mem.length i<(upd vw mem.length mem vw m).length:=fun i hi him=>by
   unfold noRd at hi;unfold vwH;rw [zak] at hi ⊢
   cases hvi:vw[i]? with
   | none =>
     have:vw.length≤i:=by simpa using hvi
     simp only [zaq];omega
   | some v =>
     rw [hvi] at hi
     cases v with
     | same h=>have:=hlt i h hvi;simp only;omega
     | rd x=>cases hi
  cases x with
  | val v=>trivial
  | ptr h b o=>exact hh h hc hx
  | slc h b m c=>exact hh h hc hx
  | gsl h m=>exact hh h hc hx
  | clo g hs =>
    intro k hk;rw [List.mem_map] at hk;obtain ⟨i,hi,rfl⟩:=hk;exact hh i (List.all_eq_true.1 hc i hi) (hx i hi)
  | gptr h b o=>exact hh h hc hx
  | rptr h b o=>exact hh h hc hx
  | bnd g h=>exact hh h hc hx
  | rsl h q =>
    simp only [vwS];rw [zak]
    split
    ·rename_i x hx'
     exact (hhdl h x q hx').mono (by omega)
    ·rename_i hx'
     refine hh h ?_ hx;unfold noRd;rw [zak]
     split
     ·rename_i x h3;exact absurd h3 (hx' x)
     ·rfl
 have okL:∀ l:List S1,(∀ x∈l,x.ok m.length)→clL vw l=true→∀ x∈map1s (vwS vw mem.length) l,x.ok (upd vw mem.length mem vw m).length:=fun l hl hc x hx=>by
  rw [za6,List.mem_map] at hx;obtain ⟨y,hy,rfl⟩:=hx;exact okS y (hl y hy) (zbs hc y hy)
 have okV:(mapV (vwS vw mem.length) v).ok (upd vw mem.length mem vw m).length:=by
  cases v with
  | one x=>exact okS x hvok c1
  | agg l=>exact okL l hvok c1
  | tup l =>
    intro x hx;rw [zcn,List.mem_map] at hx;obtain ⟨y,hy,rfl⟩:=hx
    have key:∀ l:List TV,clT vw l=true→∀ y∈l,(match y with | .one z=>clS vw z | .agg z=>clL vw z)=true:=by
     intro l
     induction l with
     | nil=>intro _ y hy;cases hy
     | cons a r ih =>
       intro h y hy
       cases a<;>(obtain ⟨h1,h2⟩:=zbs.cond_true' h;rcases List.mem_cons.1 hy with rfl|hy<;>first|exact h1|exact ih h2 y hy)
    have h1:=key l c1 y hy
    have h2:=hvok y hy
    cases y with
    | one z=>exact okS z h2 h1
    | agg z=>exact okL z h2 h1
  | any=>trivial
 have newB:∀ (k:Nat) (b:MB),(k∈sameH vw∨mem.length≤k)→(upd vw mem.length mem vw m)[k]?=some b→∃ (i:Nat) (c:MB),m[i]?=some c∧b=mapB (vwS vw mem.length) c∧ρ1 k=ρ1' i∧(vw[i]?=some (VW.same k)∨(vw.length≤i∧i=vw.length+(k-mem.length)∧mem.length≤k)):=fun k b hk hb=>by
  rcases ze4 hml hd k b hb with ⟨h1,h2,_⟩|⟨i,c,h1,h2,h3⟩|⟨h1,c,h2,h3⟩
  ·rcases hk with hk|hk
   ·exact absurd hk h2
   ·omega
  ·have hil:=(List.getElem?_eq_some_iff.1 h1).1
   exact ⟨i,c,h2,h3,by rw [←r1 k (hlt i k h1),←hρ1 i (by omega),(hρ0 i).1 k h1],.inl h1⟩
  ·refine ⟨_,c,h2,h3,?_,.inr ⟨by omega,rfl,h1⟩⟩
   have:=r2 (k-mem.length)
   rw [show mem.length+(k-mem.length)=k by omega] at this
   rw [this,hlen]
 refine ⟨v,m,ρ1,by rw [zp4 (hS1 m.length) hvok c1],hQv,okV,by omega,r1,?_⟩
 refine H.move (fun h=>h∈sameH vw) (fun k=>k∈sameH vw∨mem.length≤k) id (fun i=>i∈own'∨w.heap.size≤i) (fun i hi=>hi.imp (fun h=>by obtain ⟨h1,b,h2,h3,h4⟩:=(hown' i).1 h;exact ⟨h1,b,h2,h3,h4⟩) fun h=>h) (H1.gr.mono fun i _ hi=>.inl hi) (fun _ _ _ _ e=>e) (fun b hb=>?_) (fun k b hb hn=>?_) (fun k b hb hn=>?_) (fun k j b c hk hj hb hc hne i hw=>?_)
 ·obtain ⟨k,hk⟩:=List.getElem?_of_mem hb
  by_cases hn:k∈sameH vw∨mem.length≤k
  ·obtain ⟨i,c,h1,rfl,_,_⟩:=newB k b hn hk
   have h2:=H1.ok c (List.mem_of_getElem? h1)
   have h3:=zlk c2 c (List.mem_of_getElem? h1)
   cases c<;>first|exact okL _ h2 h3|trivial
  ·rcases ze4 hml hd k b hk with ⟨h1,h2,h3⟩|⟨i,c,h1,_⟩|⟨h1,_⟩
   ·exact (H.ok b (List.mem_of_getElem? h3)).mono (by omega)
   ·exact absurd (.inl (zdd.2 ⟨i,h1⟩)) hn
   ·exact absurd (.inr h1) hn
 ·rcases ze4 hml hd k b hb with ⟨h1,h2,h3⟩|⟨i,c,h1,_⟩|⟨h1,_⟩
  ·refine ⟨h2,b,h3,fun i hi=>?_,fun i hi=>?_,fun hk=>?_⟩
   ·rw [←r1 k h1] at hi;exact hi
   ·rw [←r1 k h1] at hi;exact hi
   ·show BlkAt ρ1 w' (ρ1 k) b
    rw [←r1 k h1];exact hk.congr r1 (H.ok b (List.mem_of_getElem? h3))
  ·exact absurd (.inl (zdd.2 ⟨i,h1⟩)) hn
  ·exact absurd (.inr h1) hn
 ·obtain ⟨i,c,h1,rfl,h2,h3⟩:=newB k b hn hb
  rw [h2]
  refine ⟨zrt (hS1 m.length) (H1.ok c (List.mem_of_getElem? h1)) (zlk c2 c (List.mem_of_getElem? h1)) (H1.blk i c h1),fun j hj=>?_,fun j hj=>?_⟩
  ·exact (H1.fre i c h1).1 j (zbt.1 hj)
  ·have hj':=zd2.1 hj
   refine ⟨(H1.fre i c h1).2 j hj',.inr ?_⟩
   have h4:=zgp c3 i c h1 hj'.1
   have hil:=(List.getElem?_eq_some_iff.1 h4).1
   rcases hget i c h4 with ⟨h,k1,k2⟩|⟨x,q,xs,k1,rfl,_⟩
   ·refine ⟨h,_,k2,?_⟩
    rw [(same_wf i h c j k1).2,hρ1 i hil];exact hj'
   ·rcases h3 with h3|⟨h3,_⟩
    ·rw [h3] at k1;simp at k1
    ·omega
 ·obtain ⟨i1,b1,h1,rfl,h2,h3⟩:=newB k b hk hb
  obtain ⟨i2,b2,k1,rfl,k2,k3⟩:=newB j c hj hc
  have hne':i1≠i2:=fun e=>by
   subst e
   rcases h3 with h3|⟨h3,h4,h5⟩<;>rcases k3 with k3|⟨k3,k4,k5⟩
   ·rw [h3] at k3
    exact hne (by simpa using k3)
   ·have:=(List.getElem?_eq_some_iff.1 h3).1;omega
   ·have:=(List.getElem?_eq_some_iff.1 k3).1;omega
   ·omega
  rw [h2] at hw;rw [k2]
  have:=H1.apt i1 i2 b1 b2 h1 k1 hne' i (zbt.1 hw)
  exact ⟨fun h=>this.1 (zbt.1 h),fun h=>this.2 (zd2.1 h)⟩
section
variable {E:Env} {R:Ending→World→Prop}
theorem zso {all l:List VW} {n j:Nat} {b:MB}:∀ {mem m:List MB},m.length<l.length→inL (sameH l) j=false→j<mem.length→(upd all n mem l m)[j]?=some b→mem[j]?=some b:=by
 induction l with
 | nil=>intro mem m h;simp at h
 | cons v l ih =>
   intro mem m h hn hj hb
   cases m with
   | nil=>simpa [upd] using hb
   | cons c r =>
     cases v with
     | same q =>
       simp only [upd] at hb
       have hq:inL (sameH l) j=false∧j≠q:=by
        simp only [sameH,inL] at hn
        cases hqj:Nat.beq q j with
        | true=>rw [hqj] at hn;cases hn
        | false=>rw [hqj] at hn;exact ⟨hn,fun e=>by subst e;rw [Nat.beq_refl] at hqj;cases hqj⟩
       have:=ih (by simpa using h) hq.1 (by simpa [zaf] using hj) hb
       rwa [zaf,List.getElem?_set_ne (Ne.symm hq.2)] at this
     | rd x =>
       simp only [upd] at hb
       exact ih (by simpa using h) hn hj hb
theorem zhl (vw:List VW) {f:FuncId} {args args0:List SV} {dst:Option Tmp} {k:List It} {tm:PT} {mem mem0:List MB} {Q:SV→List MB→Prop} (ht:Tri E.P f args0 mem0 Q) (hargs:args=mapVs (vwS vw mem.length) args0) (hv:views mem vw mem.length vw mem0) (hd:distinct (sameH vw)=true) (hcl:clM vw mem0=true) (hok:∀ b∈mem0,b.ok mem0.length) (hca:clA vw args0=true) (hao:∀ v∈args0,v.ok mem0.length)
 (hQ:∀ v m,Q v m→clV vw v=true∧clM vw m=true∧rdSame m mem0) (hk:headW (sameH vw) k=true)
 (h:∀ v m,Q v m→Good E R ⟨k,putE tm dst (mapV (vwS vw mem.length) v),upd vw mem.length mem vw m⟩):Good E R ⟨.call f args dst::k,tm,mem⟩:=by
 intro ρ w a hρ hl H htm ha hit;subst hargs;refine ⟨ht.1,(zcs vw ht hv hd hcl hok hca hao hQ E.w0 E.own ρ w H).mono ?_⟩
 rintro e w' ⟨v,m,ρ',rfl,hq,hvok,hle,hρ',H'⟩
 refine ⟨_,rfl,?_⟩;obtain ⟨hlen,_⟩:=zdv hv
 have hml:mem.length≤(upd vw mem.length mem vw m).length:=hle
 have hsame:∀ j,j<mem.length→inL (sameH vw) j=false→(upd vw mem.length mem vw m)[j]?=mem[j]?:=fun j hj hn=>by
  obtain ⟨b,hb⟩:∃ b,(upd vw mem.length mem vw m)[j]?=some b:=⟨_,List.getElem?_eq_getElem (by omega)⟩
  rw [hb]
  by_cases hle2:vw.length≤m.length
  ·rcases ze4 hle2 hd j b hb with ⟨_,_,h3⟩|⟨i,c,h1,_⟩|⟨h1,_⟩
   ·exact h3.symm
   ·rw [zds.2 (zdd.2 ⟨i,h1⟩)] at hn;cases hn
   ·omega
  ·exact (zso (by omega) hn hj hb).symm
 have:=h v m hq ρ' w' _ (fun h p hp=>by rw [←hρ' h (Nat.lt_of_lt_of_le (List.getElem?_eq_some_iff.1 hp).1 hl)];exact hρ h p hp) (Nat.le_trans hl hle) H' (zck (htm.mono hle) hvok) (zbz (ha.ext htm hρ') _ _) (zci (tl hit) hle fun it hi all n0 W m0 ls ord m he h hh hw=>by
  have hok:=tl hit it hi
  rw [he] at hok;exact hsame h (Nat.lt_of_lt_of_le hh hok.2.1) (zeu hk it hi all n0 W m0 ls ord m he h hh hw))
 rw [←za4 hρ' fun it hi=>tl hit it hi] at this
 exact this
def TriP (P:Program) (f:FuncId) (args:List SV) (mem:List MB) (v:SV):Prop:=Tri P f args mem fun u m=>u=v∧m=mem
theorem zfe {mem:List MB} {all:List VW} {n:Nat}:∀ {l:List VW} {m:List MB},views mem all n l m→upd all n mem l m=mem
 | [],[],_=>by simp [upd,mapBs]
 | .same h :: l, b :: m, hv => by
   simp only [upd]
   have h1:=hv.1
   rw [zak] at h1
   have hset:setAt mem h (mapB (vwS all n) b)=mem:=by
    rw [zaf]
    refine List.ext_getElem? fun i=>?_
    by_cases e:h=i
    ·subst e
     rw [List.getElem?_set_self (List.getElem?_eq_some_iff.1 h1).1,h1]
    ·rw [List.getElem?_set_ne e]
   rw [hset];exact zfe hv.2
 | .rd x :: l, b :: m, hv => by
   simp only [upd];exact zfe hv.2.2
 | [],_::_,hv=>hv.elim
 | .same _::_,[],hv=>hv.elim
 | .rd _::_,[],hv=>hv.elim
theorem zdp:∀ m:List MB,rdSame m m
 | []=>trivial
 | b::m=>⟨.inr rfl,zdp m⟩
theorem zwz (vw:List VW) {f:FuncId} {args args0:List SV} {dst:Option Tmp} {k:List It} {tm:PT} {mem mem0:List MB} {v0:SV} (ht:TriP E.P f args0 mem0 v0) (hargs:args=mapVs (vwS vw mem.length) args0) (hv:views mem vw mem.length vw mem0) (hd:distinct (sameH vw)=true) (hcl:clM vw mem0=true) (hok:∀ b∈mem0,b.ok mem0.length) (hca:clA vw args0=true) (hao:∀ v∈args0,v.ok mem0.length)
 (hcv:clV vw v0=true) (hk:headW [] k=true) (h:Good E R ⟨k,putE tm dst (mapV (vwS vw mem.length) v0),mem⟩):Good E R ⟨.call f args dst::k,tm,mem⟩:=by
 intro ρ w a hρ hl H htm ha hit;subst hargs
 refine ⟨ht.1,(zcs vw ht hv hd hcl hok hca hao (fun v m hq=>by obtain ⟨rfl,rfl⟩:=hq;exact ⟨hcv,hcl,zdp _⟩) E.w0 E.own ρ w H).mono ?_⟩
 rintro e w' ⟨v,m,ρ',rfl,⟨rfl,rfl⟩,hvok,hle,hρ',H'⟩
 refine ⟨_,rfl,?_⟩;rw [zfe hv] at hvok H'
 have:=h ρ' w' _ (fun h p hp=>by rw [←hρ' h (Nat.lt_of_lt_of_le (List.getElem?_eq_some_iff.1 hp).1 hl)];exact hρ h p hp) hl H' (zck htm hvok) (zbz (ha.ext htm hρ') _ _) (tl hit)
 rw [←za4 hρ' fun it hi=>tl hit it hi] at this
 exact this
variable {w0:World} {own:List Nat} {ps:List (Nat × Nat)} {P:Program} {T:List (TypeId × TI)} {D:Ords} {fn:Func} {L:Nat→Act→World→Prop} {n:Nat} {Q:SV→List MB→Prop}
abbrev Ends (w0:World) (own:List Nat) (ps:List (Nat × Nat)) (n:Nat) (Q:SV→List MB→Prop) (R:Ending→World→Prop):Prop:=∀ (v:SV) (mem':List MB),v.ok mem'.length→n≤mem'.length→Q v mem'→∀ ρ w,(∀ (h:Nat) p,ps[h]?=some p→ρ h=p)→Sat w0 own ρ mem' w→R (.returned (concV ρ v)) w
theorem zx9 (hR:Ends w0 own ps n Q R) (hr:fn.results=#[]) {k:List It} {tm:PT} {mem:List MB} (m1 ex:List MB) (hm:mem=m1++ex) (hok:∀ b∈m1,b.ok m1.length) (hle:n≤m1.length) (hQ:Q (.tup []) m1):Good ⟨P,T,D,fn,w0,own,ps,L⟩ R ⟨.ret::k,tm,mem⟩:=by
 subst hm
 exact zwy hr fun ρ w hρ hS=>hR (.tup []) m1 (fun x hx=>by cases hx) hle hQ ρ w hρ (hS.take hok)
theorem zyn (hR:Ends w0 own ps n Q R) (hr:fn.results=#[]) {tm:PT} {mem:List MB} (m1 ex:List MB) (hm:mem=m1++ex) (hok:∀ b∈m1,b.ok m1.length) (hle:n≤m1.length) (hQ:Q (.tup []) m1):Good ⟨P,T,D,fn,w0,own,ps,L⟩ R ⟨[],tm,mem⟩:=by
 subst hm
 exact zne hr fun ρ w hρ hS=>hR (.tup []) m1 (fun x hx=>by cases hx) hle hQ ρ w hρ (hS.take hok)
theorem zx8 (hR:Ends w0 own ps n Q R) (hE:Env.Ok ⟨P,T,D,fn,w0,own,ps,L⟩) {r:ResultVar} (hr:fn.results=#[r]) {k:List It} {tm:PT} {mem:List MB} {v:SV} (hv:resE std T tm mem r=some v) (m1 ex:List MB) (hm:mem=m1++ex) (hok:∀ b∈m1,b.ok m1.length) (hle:n≤m1.length) (hvok:v.ok m1.length) (hQ:Q v m1):Good ⟨P,T,D,fn,w0,own,ps,L⟩ R ⟨.ret::k,tm,mem⟩:=by
 subst hm
 exact znd hE hr hv fun ρ w hρ hS=>hR v m1 hvok hle hQ ρ w hρ (hS.take hok)
theorem zx7 (hR:Ends w0 own ps n Q R) (hE:Env.Ok ⟨P,T,D,fn,w0,own,ps,L⟩) {r s:ResultVar} (hr:fn.results=#[r,s]) {k:List It} {tm:PT} {mem:List MB} {v u:SV} (hv:resE std T tm mem r=some v) (hu:resE std T tm mem s=some u) (h1:(tvO v).sv=v) (h2:(tvO u).sv=u) (m1 ex:List MB) (hm:mem=m1++ex) (hok:∀ b∈m1,b.ok m1.length) (hle:n≤m1.length) (hvok:(SV.tup [tvO v,tvO u]).ok m1.length) (hQ:Q (.tup [tvO v,tvO u]) m1):Good ⟨P,T,D,fn,w0,own,ps,L⟩ R ⟨.ret::k,tm,mem⟩:=by
 subst hm
 exact zj6 hE hr hv hu h1 h2 fun ρ w hρ hS=>hR _ m1 hvok hle hQ ρ w hρ (hS.take hok)
theorem zx6 (hR:Ends w0 own ps n Q R) (hE:Env.Ok ⟨P,T,D,fn,w0,own,ps,L⟩) {r s t:ResultVar} (hr:fn.results=#[r,s,t]) {k:List It} {tm:PT} {mem:List MB} {v u x:SV} (hv:resE std T tm mem r=some v) (hu:resE std T tm mem s=some u) (hx:resE std T tm mem t=some x) (h1:(tvO v).sv=v) (h2:(tvO u).sv=u) (h3:(tvO x).sv=x) (m1 ex:List MB) (hm:mem=m1++ex) (hok:∀ b∈m1,b.ok m1.length) (hle:n≤m1.length) (hvok:(SV.tup [tvO v,tvO u,tvO x]).ok m1.length) (hQ:Q (.tup [tvO v,tvO u,tvO x]) m1):Good ⟨P,T,D,fn,w0,own,ps,L⟩ R ⟨.ret::k,tm,mem⟩:=by
 subst hm
 exact zew hE hr hv hu hx h1 h2 h3 fun ρ w hρ hS=>hR _ m1 hvok hle hQ ρ w hρ (hS.take hok)
theorem fnO {i : FuncId} (t : TabOk P T) (f : P.funcs[i]? = some fn) (m : P.follows .mixedOrders = true := by exact zaa) (b : fn.body = some (bodyOf fn) := by exact rfl) (n1 : (fn.name == "runtime.NumGoroutine") = false := by kernel_rfl) (n2 : fn.body.isNone = false := by kernel_rfl) (k : codeChk D (bodyOf fn) = true := by decide +kernel) : FnOk P i T D fn (bodyOf fn) := ⟨t, m, f, b, zbe f n1 n2, k⟩
theorem zad {f:FuncId} {c:Code} {args:List SV} {mem:List MB} (F:FnOk P f T D fn c) (N:Nat)
 (h:∀ (w0:World) (own:List Nat) (ps:List (Nat × Nat)) (R:Ending→World→Prop),ps.length=mem.length→(∀ (v:SV) (mem':List MB),v.ok mem'.length→mem.length≤mem'.length→Q v mem'→∀ ρ w,(∀ (h:Nat) p,ps[h]?=some p→ρ h=p)→Sat w0 own ρ mem' w→R (.returned (concV ρ v)) w)→Env.Ok ⟨P,T,D,fn,w0,own,ps,fun _ _ _=>False⟩ →
  Good ⟨P,T,D,fn,w0,own,ps,fun _ _ _=>False⟩ R ⟨[.code (stripC c)],tfrom .nil 0 (args++List.replicate N (.one (.val undef))),mem⟩) (hN:fn.ntmps-args.length=N:=by exact rfl):Tri P f args mem Q :=
 qc3 F.t F.m 0 F.f F.b F.g F.k (by rw [hN]) fun w0 own ps R h1 h2=>h w0 own ps R h1 h2 ⟨F.t,F.m⟩
end
end Eng
namespace Eng
def packA (m:List MB) (W:Nat→Prop) (p:Nat × Nat) (w:World):Prop :=
 (∀ b∈m,b.rd=false∧b.ok m.length)∧∃ ρ:Nat→Nat × Nat,ρ 0=p∧(∀ (h:Nat) (b:MB),m[h]?=some b→BlkAt ρ w (ρ h) b)∧(∀ i,W i↔∃ (h:Nat) (b:MB),m[h]?=some b∧b.wf (ρ h) i)∧∀ (h k:Nat) (b c:MB),m[h]?=some b→m[k]?=some c→h≠k→∀ i,b.wf (ρ h) i→¬ c.wf (ρ k) i
theorem zr2 {m:List MB} {W:Nat→Prop} {p:Nat × Nat} {w w':World} (hw:∀ i,W i→w'.heap[i]?=w.heap[i]?) (h:packA m W p w):packA m W p w':=by
 obtain ⟨h0,ρ,h1,h2,h3,h4⟩:=h
 refine ⟨h0,ρ,h1,fun h b hb=>(h2 h b hb).keep fun i hi=>?_,h3,h4⟩
 rcases hi with hi|hi
 ·exact hw i ((h3 i).2 ⟨h,b,hb,hi⟩)
 ·have:=hi.1
  rw [(h0 b (List.mem_of_getElem? hb)).1] at this
  cases this
theorem zv5 {m:List MB} {W:Nat→Prop} {p:Nat × Nat} {w:World} (h:packA m W p w) {i:Nat} (hi:W i):i<w.heap.size:=by
 obtain ⟨h0,ρ,h1,h2,h3,h4⟩:=h;obtain ⟨h,b,hb,hw⟩:=(h3 i).1 hi;exact (h2 h b hb).low hw
def packO {ι:Type} (m:ι→List MB) (W:Nat→Prop):AO where
 W:=W
 Φ p w:=∃ x,packA (m x) W p w
 stable:=fun _ _ _ hw ⟨x,h⟩=>⟨x,zr2 hw h⟩
 low:=fun _ _ _ ⟨_,h⟩ hi=>zv5 h hi
def softK:List It→Bool
 | []=>true
 | .head _ _ _ _ _ _ _::_=>false
 | .call _ _ _::_=>false
 | .code _::k=>softK k
 | .ops _ _::k=>softK k
 | .blk _::k=>softK k
 | .again _::k=>softK k
 | .ret::k=>softK k
theorem zvn:∀ {k:List It},softK k=true→∀ it∈k,∀ m,It.ok m it
 | [],_,it,hi,_=>by cases hi
 | x :: k, h, it, hi, m => by
   cases x<;>first
    | (simp [softK] at h;done)
    | (rcases List.mem_cons.1 hi with rfl | hi
       ·trivial
       ·exact zvn (k:=k) (by simpa [softK] using h) it hi m)
theorem zef {P:Program} {D:Ords} {fn:Func} {R:Ending→World→Prop} {L:Nat→Act→World→Prop} (ρ ρ':Nat→Nat × Nat):∀ {k:List It},softK k=true→cont P D fn R L ρ k=cont P D fn R L ρ' k
 | [],_=>rfl
 | .code c::k,h=>by simp only [cont,zef ρ ρ' (k:=k) h]
 | .blk c::k,h=>by simp only [cont,zef ρ ρ' (k:=k) h]
 | .again i::k,h=>by simp only [cont,zef ρ ρ' (k:=k) h]
 | .ops _ _::k,h=>by simp only [cont,zef ρ ρ' (k:=k) h]
 | .ret::k,h=>by simp only [cont]
 | .head _ _ _ _ _ _ _::_,h=>by simp [softK] at h
 | .call _ _ _::_,h=>by simp [softK] at h
section
variable {E:Env} {R:Ending→World→Prop}
theorem zcb {k:List It} {tm2:PT} {mem mem2:List MB} (hk:softK k=true) {ρ ρ':Nat→Nat × Nat} {w:World} {a:Act} (hρ:∀ (h:Nat) p,E.ρ0[h]?=some p→ρ h=p) (hl:E.ρ0.length≤mem.length) (hle:mem.length≤mem2.length) (hag:∀ h,h<mem.length→ρ h=ρ' h) (H2:Sat E.w0 E.own ρ' mem2 w) (htm:TmOk mem2.length tm2) (ha:Rel ρ' tm2 a) (hG:Good E R ⟨k,tm2,mem2⟩):cont E.P E.D E.fn R E.L ρ k .normal a w:=by
 have:=hG ρ' w a (fun h p hp=>by rw [←hag h (Nat.lt_of_lt_of_le (List.getElem?_eq_some_iff.1 hp).1 hl)];exact hρ h p hp) (Nat.le_trans hl hle) H2 htm ha (fun it hi=>zvn hk it hi _)
 rw [zef ρ' ρ hk] at this;exact this
def pkH (h n:Nat):Nat→Nat
 | 0=>h
 | i+1=>n+i
def unpk (mem:List MB) (h:Nat):List MB→List MB
 | []=>mem
 | b::r=>setAt mem h (renB (pkH h (len mem)) b)++mapBs (ren1 (pkH h (len mem))) r
theorem qao {f:Nat→Nat} {n m:Nat} (hf:∀ i,i<n→f i<m):∀ {x:S1},x.ok n→(ren1 f x).ok m
 | .val _,_=>trivial
 | .ptr _ _ _,h=>hf _ h
 | .slc _ _ _ _,h=>hf _ h
 | .gsl _ _,h=>hf _ h
 | .clo _ hs, h => fun k hk => by
   rw [List.mem_map] at hk;obtain ⟨i,hi,rfl⟩:=hk;exact hf _ (h i hi)
 | .gptr _ _ _,h=>hf _ h
 | .rsl _ _,h=>hf _ h
 | .rptr _ _ _,h=>hf _ h
 | .bnd _ _,h=>hf _ h
theorem qbz {f:Nat→Nat} {n m:Nat} (hf:∀ i,i<n→f i<m) {b:MB} (hb:b.ok n):(renB f b).ok m:=by
 cases b with
 | own t l =>
   intro x hx;rw [za6,List.mem_map] at hx;obtain ⟨y,hy,rfl⟩:=hx;exact qao hf (hb y hy)
 | ro l =>
   intro x hx;rw [za6,List.mem_map] at hx;obtain ⟨y,hy,rfl⟩:=hx;exact qao hf (hb y hy)
 | _=>trivial
theorem zff {mem ms:List MB} {h:Nat} (hlt:h<mem.length) (hne:ms≠[]):∀ k b,(unpk mem h ms)[k]?=some b →
 (k<mem.length∧k≠h∧mem[k]?=some b)∨∃ i c,ms[i]?=some c∧b=renB (pkH h mem.length) c∧pkH h mem.length i=k∧(k=h∨mem.length≤k):=by
 intro k b hb
 cases ms with
 | nil=>exact absurd rfl hne
 | cons c r =>
   simp only [unpk,zaq] at hb
   have hsl:(setAt mem h (renB (pkH h mem.length) c)).length=mem.length:=by simp [zaf]
   rcases Nat.lt_or_ge k mem.length with h1|h1
   ·rw [List.getElem?_append_left (by omega),zaf] at hb
    by_cases e:k=h
    ·subst e
     rw [List.getElem?_set_self h1] at hb;exact .inr ⟨0,c,rfl,(Option.some.inj hb).symm,rfl,.inl rfl⟩
    ·rw [List.getElem?_set_ne (Ne.symm e)] at hb
     exact .inl ⟨h1,e,hb⟩
   ·rw [List.getElem?_append_right (by omega),hsl,zbq,List.getElem?_map,Option.map_eq_some_iff] at hb
    obtain ⟨d,hd,rfl⟩:=hb
    exact .inr ⟨k-mem.length+1,d,by simpa using hd,rfl,by simp only [pkH];omega,.inr h1⟩
theorem zah {k:List It} {tm:PT} {mem:List MB} (h:Nat) {ι:Type} {m:ι→List MB} {W:Nat→Prop} (hk:softK k=true) (hb:nth mem h=some (.obj (packO m W))) (hne:∀ x,m x≠[])
 (hg:∀ x,Good E R ⟨k,tm,unpk mem h (m x)⟩):Good E R ⟨k,tm,mem⟩:=by
 rw [zak] at hb
 have hlt:=(List.getElem?_eq_some_iff.1 hb).1
 intro ρ w a hρ hl H htm ha hit;dsimp only at hl H htm ha hit;obtain ⟨x,h0,ρx,h1,h2,h3,h4⟩:=H.blk h _ hb
 have hsz:(unpk mem h (m x)).length=mem.length+((m x).length-1):=by
  cases hx:m x with
  | nil=>exact absurd hx (hne x)
  | cons b r=>simp [unpk,zaf,zbq]
 let ρ':Nat→Nat × Nat:=fun i=>if i<mem.length then ρ i else ρx (i-mem.length+1)
 have hag:∀ i,i<mem.length→ρ i=ρ' i:=fun i hi=>by simp [ρ',hi]
 have hcomp:ρ' ∘ pkH h mem.length=ρx:=by
  funext i
  cases i with
  | zero=>show ρ' h=ρx 0;rw [←hag h hlt,h1]
  | succ i =>
    have h9:¬ mem.length+i<mem.length:=by omega
    simp [ρ',pkH,h9]
 have hfl:∀ i,i<(m x).length→pkH h mem.length i<(unpk mem h (m x)).length:=fun i hi=>by
  cases i with
  | zero=>show h<_;omega
  | succ i=>show mem.length+i<_;omega
 have hpk:∀ i j,pkH h mem.length i=pkH h mem.length j→i=j:=fun i j e=>by
  cases i<;>cases j<;>simp only [pkH] at e<;>omega
 refine zcb hk hρ hl (by omega) hag ?_ (htm.mono (by omega)) (ha.ext htm hag) (hg x)
 refine H.move (fun k=>k=h) (fun k=>k=h∨mem.length≤k) id W (fun i hi=>.inl ⟨h,_,rfl,hb,hi⟩) (Gr.refl _ _) (fun _ _ _ _ e=>e) (fun b hbm=>?_) (fun k b hkb hn=>?_) (fun k b hkb hn=>?_) (fun k j b c hk hj hkb hjc hne' i hw=>?_)
 ·obtain ⟨k,hkb⟩:=List.getElem?_of_mem hbm
  rcases zff hlt (hne x) k b hkb with ⟨_,_,h7⟩|⟨i,c,h5,rfl,_⟩
  ·exact (H.ok b (List.mem_of_getElem? h7)).mono (by omega)
  ·exact qbz hfl (h0 c (List.mem_of_getElem? h5)).2
 ·rcases zff hlt (hne x) k b hkb with ⟨h5,h6,h7⟩|⟨i,c,_,_,_,h5⟩
  ·refine ⟨h6,b,h7,fun i hi=>?_,fun i hi=>?_,fun hk=>?_⟩
   ·rw [←hag k h5] at hi;exact hi
   ·rw [←hag k h5] at hi;exact hi
   ·rw [←hag k h5];exact hk.congr hag (H.ok b (List.mem_of_getElem? h7))
  ·exact absurd h5 hn
 ·rcases zff hlt (hne x) k b hkb with ⟨h5,h6,h7⟩|⟨i,c,h5,rfl,rfl,h6⟩
  ·omega
  ·have e:ρ' (pkH h mem.length i)=ρx i:=congrFun hcomp i
   rw [e]
   have hcr:=(h0 c (List.mem_of_getElem? h5)).1
   refine ⟨zcw (n:=(m x).length) (ρ':=ρx) (hcomp ▸ zej _) (h0 c (List.mem_of_getElem? h5)).2 (h2 i c h5),fun j hj=>(h3 j).2 ⟨i,c,h5,zbt.1 hj⟩,fun j hj=>?_⟩
   have:=(zd2.1 hj).1
   rw [hcr] at this
   cases this
 ·rcases zff hlt (hne x) k b hkb with ⟨h5,h6,h7⟩|⟨i1,b1,h5,rfl,rfl,h6⟩
  ·omega
  ·rcases zff hlt (hne x) j c hjc with ⟨k5,k6,k7⟩|⟨i2,b2,k5,rfl,rfl,k6⟩
   ·omega
   ·have e1:ρ' (pkH h mem.length i1)=ρx i1:=congrFun hcomp i1
    have e2:ρ' (pkH h mem.length i2)=ρx i2:=congrFun hcomp i2
    rw [e1] at hw;rw [e2]
    refine ⟨fun hh=>h4 i1 i2 b1 b2 h5 k5 (fun e=>hne' (by rw [e])) i (zbt.1 hw) (zbt.1 hh),fun hh=>?_⟩
    have:=(zd2.1 hh).1
    rw [(h0 b2 (List.mem_of_getElem? k5)).1] at this
    cases this
def kills (mem:List MB):List Nat→List MB
 | []=>mem
 | h::l=>kills (setAt mem h .dead) l
theorem zea:∀ {l:List Nat} {mem:List MB},(kills mem l).length=mem.length
 | [],_=>rfl
 | h::l,mem=>by simp [kills,zea (l:=l),zaf]
theorem zis:∀ {l:List Nat} {mem:List MB} (k:Nat) (b:MB),(kills mem l)[k]?=some b→(k∈l∧b=.dead)∨(k ∉ l∧mem[k]?=some b)
 | [],_,k,b,hb=>.inr ⟨by simp,hb⟩
 | h :: l, mem, k, b, hb => by
   rcases zis (l:=l) k b hb with ⟨h1,h2⟩|⟨h1,h2⟩
   ·exact .inl ⟨by simp [h1],h2⟩
   ·by_cases e:k=h
    ·subst e
     rw [zaf] at h2
     have:=(List.getElem?_eq_some_iff.1 h2).1
     rw [List.getElem?_set_self (by simpa using this)] at h2
     exact .inl ⟨by simp,(Option.some.inj h2).symm⟩
    ·rw [zaf,List.getElem?_set_ne (Ne.symm e)] at h2
     exact .inr ⟨by simp [e,h1],h2⟩
def atL (f:Nat→Nat) (mem:List MB):Nat→List MB→Prop
 | _,[]=>True
 | h,b::m=>nth mem (f h)=some (renB f b)∧b.rd=false∧atL f mem (h+1) m
theorem zpj {f:Nat→Nat} {mem:List MB}:∀ (m:List MB) (h:Nat),atL f mem h m→∀ (k:Nat) (b:MB),m[k]?=some b→mem[f (h+k)]?=some (renB f b)∧b.rd=false
 | [],_,_,k,b,hb=>by simp at hb
 | c :: m, h, ha, k, b, hb => by
   cases k with
   | zero =>
     obtain rfl:c=b:=by simpa using hb
     rw [←zak];exact ⟨ha.1,ha.2.1⟩
   | succ k =>
     have:=zpj m (h+1) ha.2.2 k b (by simpa using hb)
     rwa [show h+1+k=h+(k+1) by omega] at this
theorem zw0 {k:List It} {tm:PT} {mem:List MB} (h:Nat) (ks:List Nat) {ι:Type} {m:ι→List MB} (x:ι) (hk:softK k=true) (hlen:(m x).length=ks.length+1) (hd:distinct (h::ks)=true) (hat:atL (pi (h::ks)) mem 0 (m x)) (hok:∀ b∈m x,b.ok (m x).length)
 (hg:∀ W,Good E R ⟨k,tm,setAt (kills mem ks) h (.obj (packO m W))⟩):Good E R ⟨k,tm,mem⟩:=by
 intro ρ w a hρ hl H htm ha hit;dsimp only at hl H htm ha hit
 have get:=fun k b hb=>zpj (m x) 0 hat k b hb
 simp only [Nat.zero_add] at get
 have hlt:h<mem.length:=by
  cases hx:m x with
  | nil=>rw [hx] at hlen;simp at hlen
  | cons b r=>exact (List.getElem?_eq_some_iff.1 (get 0 b (by rw [hx];rfl)).1).1
 obtain ⟨W,hW⟩:∃ W:Nat→Prop,W=fun i=>∃ (j:Nat) (b:MB),(m x)[j]?=some b∧b.wf (ρ (pi (h::ks) j)) i:=⟨_,rfl⟩
 have hlw:(setAt (kills mem ks) h (.obj (packO m W))).length=mem.length:=by simp [zaf,zea]
 have hpi:∀ i j,i<(m x).length→j<(m x).length→pi (h::ks) i=pi (h::ks) j→i=j:=fun i j hi hj e=>by
  have i1:=zg7 (l:=h::ks) (h:=i) (by simp;omega)
  have i2:=zg7 (l:=h::ks) (h:=j) (by simp;omega)
  rw [e] at i1;exact zc6 hd i1 i2
 have hobj:packA (m x) W (ρ h) w:=by
  refine ⟨fun b hb=>⟨?_,hok b hb⟩,ρ ∘ pi (h::ks),rfl,fun i b hb=>?_,fun i=>by rw [hW];rfl,fun i j b c hb hc hne q hw hw'=>?_⟩
  ·obtain ⟨i,hi⟩:=List.getElem?_of_mem hb
   exact (get i b hi).2
  ·exact zg3 (zej _) (hok b (List.mem_of_getElem? hb)) (H.blk _ _ (get i b hb).1)
  ·have i1:=(List.getElem?_eq_some_iff.1 hb).1
   have i2:=(List.getElem?_eq_some_iff.1 hc).1
   exact (H.apt _ _ _ _ (get i b hb).1 (get j c hc).1 (fun e=>hne (hpi i j i1 i2 e)) q (zbt.2 hw)).1 (zbt.2 hw')
 have split:∀ (k:Nat) (b:MB),(setAt (kills mem ks) h (.obj (packO m W)))[k]?=some b→(k=h∧b=.obj (packO m W))∨(k≠h∧k∈ks∧b=.dead)∨(k ∉ h::ks∧mem[k]?=some b):=fun k b hb=>by
  by_cases e:k=h
  ·subst e
   rw [zaf,List.getElem?_set_self (by rw [zea];exact hlt)] at hb
   exact .inl ⟨rfl,(Option.some.inj hb).symm⟩
  ·rw [zaf,List.getElem?_set_ne (Ne.symm e)] at hb
   rcases zis k b hb with ⟨h1,h2⟩|⟨h1,h2⟩
   ·exact .inr (.inl ⟨e,h1,h2⟩)
   ·exact .inr (.inr ⟨by simp [e,h1],h2⟩)
 refine zcb hk hρ hl (by omega) (fun _ _=>rfl) ?_ (htm.mono (by omega)) ha (hg W)
 refine H.move (fun k=>k∈h::ks) (fun k=>k∈h::ks) id W (fun i hi=>?_) (Gr.refl _ _) (fun _ _ _ _ e=>e) (fun b hbm=>?_) (fun k b hkb hn=>?_) (fun k b hkb hn=>?_) (fun k j b c hk hj hkb hjc hne' i hw=>?_)
 ·rw [hW] at hi
  obtain ⟨j,b,hb,hw⟩:=hi
  have i1:=(List.getElem?_eq_some_iff.1 hb).1
  exact .inl ⟨_,_,List.mem_of_getElem? (zg7 (l:=h::ks) (h:=j) (by simp;omega)),(get j b hb).1,zbt.2 hw⟩
 ·obtain ⟨k,hkb⟩:=List.getElem?_of_mem hbm
  rw [hlw]
  rcases split k b hkb with ⟨_,rfl⟩|⟨_,_,rfl⟩|⟨_,h2⟩
  ·trivial
  ·trivial
  ·exact H.ok b (List.mem_of_getElem? h2)
 ·rcases split k b hkb with ⟨rfl,_⟩|⟨_,h1,_⟩|⟨h1,h2⟩
  ·exact absurd (by simp) hn
  ·exact absurd (by simp [h1]) hn
  ·exact ⟨hn,b,h2,fun _ h=>h,fun _ h=>h,fun h=>h⟩
 ·rcases split k b hkb with ⟨rfl,rfl⟩|⟨_,h1,rfl⟩|⟨h1,_⟩
  ·exact ⟨⟨x,hobj⟩,fun i hi=>hi,fun i hi=>(by cases hi.1)⟩
  ·exact ⟨trivial,fun i hi=>(by cases hi.1),fun i hi=>(by cases hi.1)⟩
  ·exact absurd hn h1
 ·rcases split k b hkb with ⟨rfl,rfl⟩|⟨_,_,rfl⟩|⟨h1,_⟩
  ·rcases split j c hjc with ⟨rfl,rfl⟩|⟨_,_,rfl⟩|⟨h1,_⟩
   ·exact absurd rfl hne'
   ·exact ⟨fun h=>(by cases h.1),fun h=>(by cases h.1)⟩
   ·exact absurd hj h1
  ·cases hw.1
  ·exact absurd hk h1
def frz (h h':Nat):S1→S1
 | .gsl k m=>bif Nat.beq k h then .rsl h' m else .gsl k m
 | x=>x
theorem zz2 {k:List It} {tm:PT} {mem:List MB} (h:Nat) {t:TypeId} {z n:Nat} {l:List Value} (hk:softK k=true) (hb:nth mem h=some (.grow t z n l))
 (hg:Good E R ⟨k,mapP (frz h (len mem)) tm,mapBs (frz h (len mem)) (setAt mem h .dead)++[.rs n l]⟩):Good E R ⟨k,tm,mem⟩:=by
 intro ρ w a hρ hl H htm ha hit;dsimp only at hl H htm ha hit
 obtain ⟨p,hp1,hp2,hp3⟩:=zoy H (x:=.gsl h n) (m:=n) (l:=l) ⟨rfl,by rw [hb];exact ⟨rfl,rfl⟩⟩
 rw [zak] at hb
 have hlt:=(List.getElem?_eq_some_iff.1 hb).1
 have hex:∀ i,i<mem.length→ρ i=ext2 ρ mem.length p i:=fun i hi=>zba hi
 have hsub:Subs (ext2 ρ mem.length p) ρ (frz h (len mem)) mem.length:=fun x hx=>by
  cases x with
  | gsl j m =>
    simp only [frz]
    cases hj:Nat.beq j h with
    | true =>
      obtain rfl:=Nat.eq_of_beq_eq_true hj;simp only [cond_true,conc1,zaq,zay];exact hp1 m
    | false=>exact (za2 hex hx).symm
  | _=>exact (za2 hex hx).symm
 have okS:∀ x:S1,x.ok mem.length→(frz h (len mem) x).ok (mem.length+1):=fun x hx=>by
  cases x with
  | gsl j m =>
    simp only [frz]
    cases Nat.beq j h with
    | true=>show len mem<_;rw [zaq];omega
    | false=>exact S1.ok.mono (Nat.le_succ _) hx
  | _=>exact S1.ok.mono (Nat.le_succ _) hx
 have okL:∀ l:List S1,(∀ x∈l,x.ok mem.length)→∀ x∈map1s (frz h (len mem)) l,x.ok (mem.length+1):=fun l hl x hx=>by
  rw [za6,List.mem_map] at hx;obtain ⟨y,hy,rfl⟩:=hx;exact okS y (hl y hy)
 have okB:∀ b:MB,b.ok mem.length→(mapB (frz h (len mem)) b).ok (mem.length+1):=fun b hb=>by
  cases b<;>first|exact okL _ hb|trivial
 have okV:∀ v:SV,v.ok mem.length→(mapV (frz h (len mem)) v).ok (mem.length+1):=fun v hv=>by
  cases v with
  | one x=>exact okS x hv
  | agg l=>exact okL l hv
  | tup l =>
    intro x hx;rw [zcn,List.mem_map] at hx;obtain ⟨y,hy,rfl⟩:=hx
    have:=hv y hy
    cases y with
    | one x=>exact okS x this
    | agg l=>exact okL l this
  | any=>trivial
 have hml:(mapBs (frz h (len mem)) (setAt mem h .dead)).length=mem.length:=by simp [zbq,zaf]
 have hl2:(mapBs (frz h (len mem)) (setAt mem h .dead)++[MB.rs n l]).length=mem.length+1:=by rw [List.length_append,hml];rfl
 have get:∀ (j:Nat) (b:MB),(mapBs (frz h (len mem)) (setAt mem h .dead)++[.rs n l])[j]?=some b→(j<mem.length∧j≠h∧∃ b0,mem[j]?=some b0∧b=mapB (frz h (len mem)) b0)∨(j=h∧b=.dead)∨(j=mem.length∧b=.rs n l):=fun j b hj=>by
  rcases Nat.lt_trichotomy j mem.length with h1|h1|h1
  ·rw [List.getElem?_append_left (by omega),zbq,zaf,List.getElem?_map,Option.map_eq_some_iff] at hj
   obtain ⟨b0,h2,rfl⟩:=hj
   by_cases e:j=h
   ·subst e
    rw [List.getElem?_set_self h1] at h2;obtain rfl:=Option.some.inj h2;exact .inr (.inl ⟨rfl,rfl⟩)
   ·rw [List.getElem?_set_ne (Ne.symm e)] at h2
    exact .inl ⟨h1,e,b0,h2,rfl⟩
  ·subst h1
   rw [←hml] at hj;simp at hj;exact .inr (.inr ⟨rfl,hj.symm⟩)
  ·rw [List.getElem?_eq_none (by simp [hml];omega)] at hj;cases hj
 refine zcb hk hρ hl (by omega) hex ?_ (fun j v hv=>by
  rw [zc0,Option.map_eq_some_iff] at hv;obtain ⟨v0,hv0,rfl⟩:=hv;rw [hl2];exact okV v0 (htm j v0 hv0)) (zfr hsub htm ha) hg
 refine H.move (fun k=>k=h) (fun k=>k=h∨k=mem.length) id (fun i=>MB.wf (ρ h) i (.grow t z n l)) (fun i hi=>.inl ⟨h,_,rfl,hb,hi⟩) (Gr.refl _ _) (fun _ _ _ _ e=>e) (fun b hbm=>?_) (fun j b hj hn=>?_) (fun j b hj hn=>?_) (fun j i b d hj hi hb1 hd1 hne q hw=>?_)
 ·rw [hl2]
  obtain ⟨j,hj⟩:=List.getElem?_of_mem hbm
  rcases get j b hj with ⟨_,_,b0,h2,rfl⟩|⟨_,rfl⟩|⟨_,rfl⟩
  ·exact okB b0 (H.ok b0 (List.mem_of_getElem? h2))
  ·trivial
  ·trivial
 ·rcases get j b hj with ⟨h1,h2,b0,h3,rfl⟩|⟨h1,_⟩|⟨h1,_⟩
  ·refine ⟨h2,b0,h3,fun i hi=>?_,fun i hi=>?_,fun hk=>?_⟩
   ·rw [←hex j h1] at hi;exact zbt.1 hi
   ·rw [←hex j h1] at hi;exact zd2.1 hi
   ·rw [←hex j h1];exact zcw hsub (H.ok b0 (List.mem_of_getElem? h3)) hk
  ·exact absurd (.inl h1) hn
  ·exact absurd (.inr h1) hn
 ·rcases get j b hj with ⟨h1,h2,_⟩|⟨_,rfl⟩|⟨rfl,rfl⟩
  ·omega
  ·exact ⟨trivial,fun i hi=>(by cases hi.1),fun i hi=>(by cases hi.1)⟩
  ·rw [zay]
   refine ⟨hp2,fun i hi=>(by cases hi.1),fun i hi=>?_⟩
   obtain ⟨h',b0,e1,e2,e3⟩:=hp3 i hi
   obtain rfl:h=h':=by simpa [hdl] using e1
   obtain rfl:=Option.some.inj (e2.symm.trans hb)
   exact ⟨H.low hb e3,.inl (e3.elim (fun h=>h) fun h=>(by cases h.1))⟩
 ·rcases get j b hb1 with ⟨h1,h2,_⟩|⟨_,rfl⟩|⟨_,rfl⟩
  ·omega
  ·cases hw.1
  ·cases hw.1
end
end Eng
end Go.Proofs.YtpigpajgjdcagaaGreat
