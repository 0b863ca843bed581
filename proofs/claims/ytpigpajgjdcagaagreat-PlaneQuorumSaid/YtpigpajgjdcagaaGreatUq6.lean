/- Parts. -/
import Derived.Test.YtpigpajgjdcagaaGreatUq5
import Derived.Test.YtpigpajgjdcagaaGreatUr13
import Derived.Test.YtpigpajgjdcagaaGreatUq3
import Derived.Test.YtpigpajgjdcagaaGreatUr14
import Derived.Test.YtpigpajgjdcagaaGreatUr15
set_option linter.unusedSimpArgs false
set_option linter.unusedVariables false
set_option maxRecDepth 100000
set_option maxHeartbeats 60000000
namespace Go.Proofs.YtpigpajgjdcagaaGreat
open Go.RowKit Eng
set_option maxRecDepth 10000
theorem outs3 {l:List MsgD} {ps:List (Nat × Nat)} (h:ps.length=l.length) (hk:∀ m∈l,m.kind=3):Outs l ps:=⟨h,fun i m p h1 _ h3=>absurd (hk m (List.mem_of_getElem? h1)) h3⟩
theorem five {l:List Int} (h:l.length=5):∃ a b c d e,l=[a,b,c,d,e]:=by
 match l,h with
 | [a,b,c,d,e],_=>exact ⟨a,b,c,d,e,rfl⟩
def advC (r:RepD) (m:Nat):Int:=(r.advGo m).commit
theorem zg4 (r:RepD):r.advance={ r with commit:=advC r r.j.log.length }:=by
 obtain ⟨c,h,_⟩:=zqv r r.j.log.length;unfold RepD.advance advC;rw [h]
theorem zgg (r:RepD) (m:Nat) (h:(m:Int)≤r.commit):advC r m=r.commit:=by
 cases m with
 | zero=>rfl
 | succ m=>unfold advC;rw [RepD.advGo,if_pos (by omega)]
theorem zge (r:RepD) (m:Nat) (h0:0≤r.commit) (h:r.commit<m) (ht:(atJ r.j.log ((m-1:Nat):Int)).1≠r.j.term):advC r m=advC r (m-1):=by
 cases m with
 | zero=>omega
 | succ m =>
   unfold advC
   rw [RepD.advGo,if_neg (by omega),if_pos (by rw [zat,←zbm];exact ht)]
   rfl
theorem zgf (r:RepD) (m:Nat) (h0:0≤r.commit) (h:r.commit<m) (ht:(atJ r.j.log ((m-1:Nat):Int)).1=r.j.term) (hh:r.n<2 * r.holders m):advC r m=m:=by
 cases m with
 | zero=>omega
 | succ m =>
   unfold advC
   rw [RepD.advGo,if_neg (by omega),if_neg (by rw [zat,←zbm];exact fun h=>h ht),if_pos (by simpa using hh)]
   simp
theorem zhp (r:RepD) (m:Nat) (h0:0≤r.commit) (h:r.commit<m) (hh:¬ r.n<2 * r.holders m):advC r m=advC r (m-1):=by
 cases m with
 | zero=>omega
 | succ m =>
   unfold advC
   rw [RepD.advGo,if_neg (by omega)]
   simp only [Nat.add_sub_cancel]
   split
   ·rfl
   ·rw [if_neg (by simpa using hh)]
section
variable {t:Int} {F:LogD} {d:Nat} {r:RepD}
theorem zqe {L f:Nat} (hL:L<3) (hf:f<3) (hne:f≠L) (ht:1≤t∧t≤1000000) (hF:LogOk t F) (hr:RInv L t F d L r) (htm:r.j.term=t) (hro:r.role=2) (hv:r.votes=2 ^ L) :
 ∃ r1:RepD,r1={ r with votes:=((r.votes.toNat ||| 2 ^ f:Nat):Int),role:=3,next:=RepD.setAll r.next 3 r.len,mtch:=RepD.setAll r.mtch 3 0 }∧r.handle ((MK.voted f).msg L t F)=(r1,r1.others r1.appending):=by
 have hp:=zbj hL hf hne ht hF (k:=.voted f) rfl (r:=r) hr.id hr.n (by nofun) (by nofun)
 have hb:RepD.bitsTo (((r.votes.toNat ||| 2 ^ f:Nat)):Int) 3=2:=by
  rw [hv]
  exact zqq ⟨L,hL⟩ ⟨f,hf⟩ (by simpa using hne)
 have hn3:r.n.toNat=3:=by rw [hr.n];rfl
 refine ⟨_,rfl,?_⟩
 rw [(zbl hp (if_neg (show ¬ r.j.term<t by omega))).2.1 rfl]
 unfold RepD.handleVoted
 rw [if_neg (by simp [MK.msg,hro,htm])]
 simp only [show ((MK.voted f).msg L t F).src=f from rfl,hn3,Int.toNat_natCast]
 rw [if_neg (by rw [hb,hr.n];omega)]
 simp only [RepD.lead,hn3,RepD.len]
theorem qax {L f:Nat} (hL:L<3) (hf:f<3) (hne:f≠L) (ht:1≤t∧t≤1000000) (hF:LogOk t F) (hr:RInv L t F d L r) (htm:r.j.term=t) (hro:r.role=3) {i:Nat} (hi:i≤F.length) :
 ∃ r1:RepD,r1={ r with next:=r.next.set f (max 0 (min (r.nx f-1) i)) }∧r.handle ((MK.bad f i).msg L t F)=(r1,[r1.appending f]):=by
 have hp:=zbj hL hf hne ht hF (k:=.bad f i) rfl (r:=r) hr.id hr.n (by nofun) (fun i' h=>by cases h;exact hi)
 refine ⟨_,rfl,?_⟩
 rw [(zbl hp (if_neg (show ¬ r.j.term<t by omega))).2.2.2 rfl]
 unfold RepD.handleStored
 rw [if_neg (by simp [MK.msg,hro,htm]),if_pos (show ((MK.bad f i).msg L t F).ok=false from rfl)]
 simp only [show ((MK.bad f i).msg L t F).src=f from rfl,show ((MK.bad f i).msg L t F).index=i from rfl,Int.toNat_natCast]
theorem zwl {L f:Nat} (hL:L<3) (hf:f<3) (hne:f≠L) (ht:1≤t∧t≤1000000) (hF:LogOk t F) (hr:RInv L t F d L r) (hl:r.j.log=F) (htm:r.j.term=t) (hro:r.role=3) (hm:r.mt f≤F.length) :
 ∃ r1:RepD,r1={ r with mtch:=r.mtch.set f F.length,next:=r.next.set f F.length }∧r.handle ((MK.good f).msg L t F)=(r1.advance,[]):=by
 have hp:=zbj hL hf hne ht hF (k:=.good f) rfl (r:=r) hr.id hr.n (by nofun) (by nofun)
 have hmx:max (r.mt f) (F.length:Int)=F.length:=by omega
 refine ⟨_,rfl,?_⟩
 rw [(zbl hp (if_neg (show ¬ r.j.term<t by omega))).2.2.2 rfl]
 unfold RepD.handleStored
 rw [if_neg (by simp [MK.msg,hro,htm]),if_neg (by simp [MK.msg]),if_pos (by simp only [MK.msg,RepD.len,hl];omega)]
 simp only [show ((MK.good f).msg L t F).src=f from rfl,show ((MK.good f).msg L t F).index=F.length from rfl,Int.toNat_natCast,hmx]
abbrev Lk (k:K6):Nat:=s6 k 0 0 1 1 2 2
abbrev fk (k:K6):Nat:=s6 k 1 2 0 2 0 1
abbrev ak (k:K6):Nat:=s6 k 1 1 0 0 0 0
abbrev bk (k:K6):Nat:=s6 k 2 2 2 2 1 1
theorem zdh (k:K6) (ht:1≤t∧t≤1000000) (hF:LogOk t F) (hr:RInv (Lk k) t F d (Lk k) r) (hd4:d≤4096) (hl:r.j.log=F) (htm:r.j.term=t) (hro:r.role=2) (hv:r.votes=2 ^ Lk k):HOk r ((MK.voted (fk k)).msg (Lk k) t F):=by
 intro W p hp
 obtain rfl:=hp (by simp [MK.msg])
 obtain ⟨r1,e1,e2⟩:=zqe (f:=fk k) (by cases k<;>decide) (by cases k<;>decide) (by cases k<;>decide) ht hF hr htm hro hv
 have ho:r1.others r1.appending=[(MK.app (ak k) F.length r.commit).msg (Lk k) t F,(MK.app (bk k) F.length r.commit).msg (Lk k) t F]:=by
  have h0:∀ g:Nat,g<3→r1.nx g=F.length:=fun g hg=>by
   rw [e1];simp only [RepD.nx,Int.toNat_natCast]
   rw [zgl _ _ _ _ hg (by rw [hr.nl];omega),RepD.len,hl]
  have h1:=h0 (ak k) (by cases k<;>decide)
  have h2:=h0 (bk k) (by cases k<;>decide)
  rw [zbk (L:=Lk k) (by rw [e1];exact hr.id) (by rw [e1];exact hr.n),show oth (Lk k)=[ak k,bk k] by cases k<;>decide]
  simp only [List.map_cons,List.map_nil]
  rw [zbw (L:=Lk k) (t:=t) (F:=F) (by rw [e1];exact hr.id) (by rw [e1];exact htm) (by rw [e1];exact hl) (ak k) (by rw [h1];omega),zbw (L:=Lk k) (t:=t) (F:=F) (by rw [e1];exact hr.id) (by rw [e1];exact htm) (by rw [e1];exact hl) (bk k) (by rw [h2];omega),h1,h2,show r1.commit=r.commit by rw [e1]]
  simp only [Int.toNat_natCast]
 rw [e2,ho,e1];clear e2 ho e1 r1
 have hid:=hr.id
 have hn:=hr.n
 have htp:=hr.tt
 have hcc:=hr.c0
 obtain ⟨x0,x1,x2,x3,x4,hx⟩:=five hr.nl;obtain ⟨y0,y1,y2,y3,y4,hy⟩:=five hr.ml;obtain ⟨id,n,ro,cm,vo,nx,mt,⟨tm,v,lg⟩,rs⟩:=r;dsimp only at hid hn hro htm hl hx hy hcc;subst hid hn hro htm hl hx hy
 have hvo:vo=s6 k 1 1 2 2 4 4:=hv.trans (by cases k<;>rfl)
 subst hvo
 have T:=@zl0 k
 cases k
 all_goals
  dsimp only [Lk,fk,ak,bk,s6] at *;change TriY _ _ [.one (.ptr 0 0 0),.agg [.val (iv 2),.val (iv _),.val (iv _),.val (iv tm),.val (iv 0),.val (iv 0),.val (iv 0),.val (.bool true),.val (.slice none 0 0)]] _ _ _
  refine zgr (TriY.toY (T cm x0 x1 x2 x3 x4 y0 y1 y2 y3 y4 (X:=⟨⟨tm,v,lg⟩,diskB sumN rs,((diskB sumN rs).length:Int)⟩) (W:=W) (a4:=by dsimp only;omega) (a5:=by omega) (a6:=by dsimp only;omega) (a7:=by omega) (hlb:=hF.len) ..) fun y=>⟨⟨y.1,[y.2.1,y.2.2],outs3 rfl (by simp [MK.msg])⟩,?_⟩)
  simp only [zbm];rfl
theorem zes (k:K6) (ht:1≤t∧t≤1000000) (hF:LogOk t F) (hr:RInv (Lk k) t F d (Lk k) r) (hl:r.j.log=F) (htm:r.j.term=t) (hro:r.role=3):HOk r ((MK.voted (fk k)).msg (Lk k) t F):=by
 intro W p hp
 obtain rfl:=hp (by simp [MK.msg])
 rw [zc4 (f:=fk k) (by cases k<;>decide) (by cases k<;>decide) (by cases k<;>decide) ht hF hr htm hro]
 have hid:=hr.id
 have hn:=hr.n
 have htp:=hr.tt
 have hcc:=hr.c0
 obtain ⟨x0,x1,x2,x3,x4,hx⟩:=five hr.nl;obtain ⟨y0,y1,y2,y3,y4,hy⟩:=five hr.ml;obtain ⟨id,n,ro,cm,vo,nx,mt,⟨tm,v,lg⟩,rs⟩:=r;dsimp only at hid hn hro htm hl hx hy hcc;subst hid hn hro htm hl hx hy
 have T:=@zn7 k
 cases k
 all_goals
  dsimp only [Lk,fk,s6] at *;change TriY _ _ [.one (.ptr 0 0 0),.agg [.val (iv 2),.val (iv _),.val (iv _),.val (iv tm),.val (iv 0),.val (iv 0),.val (iv 0),.val (.bool true),.val (.slice none 0 0)]] _ _ _
  refine zgr (TriX.toY (T cm vo x0 x1 x2 x3 x4 y0 y1 y2 y3 y4 (X:=⟨⟨tm,v,lg⟩,diskB sumN rs,((diskB sumN rs).length:Int)⟩) (W:=W) (a4:=by dsimp only;omega) (a5:=by omega) (a6:=by dsimp only;omega) (a7:=by omega) (hlb:=hF.len) ..) fun W'=>⟨⟨W',[],outs3 rfl (by nofun)⟩,rfl⟩)
theorem zgv (k:K6) (ht:1≤t∧t≤1000000) (hF:LogOk t F) (hr:RInv (Lk k) t F d (Lk k) r) (hl:r.j.log=F) (htm:r.j.term=t) (hro:r.role=3) (hx3:0≤r.nx (fk k)∧r.nx (fk k)≤F.length) {i:Nat} (hi:i≤F.length):HOk r ((MK.bad (fk k) i).msg (Lk k) t F):=by
 intro W p hp
 obtain rfl:=hp (by simp [MK.msg])
 obtain ⟨r1,e1,e2⟩:=qax (f:=fk k) (by cases k<;>decide) (by cases k<;>decide) (by cases k<;>decide) ht hF hr htm hro hi
 obtain ⟨i1,hi1⟩:∃ i1:Nat,(i1:Int)=max 0 (min (r.nx (fk k)-1) i):=⟨(max 0 (min (r.nx (fk k)-1) i)).toNat,by omega⟩
 have ho:r1.appending (fk k)=(MK.app (fk k) i1 r.commit).msg (Lk k) t F:=by
  have h0:r1.nx (fk k)=i1:=by
   rw [e1];simp only [RepD.nx,Int.toNat_natCast]
   rw [zks _ _ _ _ (by rw [hr.nl];cases k<;>decide),if_pos rfl]
   exact hi1.symm
  rw [zbw (L:=Lk k) (t:=t) (F:=F) (by rw [e1];exact hr.id) (by rw [e1];exact htm) (by rw [e1];exact hl) (fk k) (by rw [h0];omega),h0,show r1.commit=r.commit by rw [e1]]
  simp only [Int.toNat_natCast]
 rw [e2,ho,e1,←hi1];clear e2 ho e1 r1
 have hb9:=hF.len
 have hid:=hr.id
 have hn:=hr.n
 have htp:=hr.tt
 have hcc:=hr.c0
 obtain ⟨x0,x1,x2,x3,x4,hx⟩:=five hr.nl;obtain ⟨y0,y1,y2,y3,y4,hy⟩:=five hr.ml;obtain ⟨id,n,ro,cm,vo,nx,mt,⟨tm,v,lg⟩,rs⟩:=r;dsimp only at hid hn hro htm hl hx hy hcc;subst hid hn hro htm hl hx hy
 have hz:0≤s6 k x1 x2 x0 x2 x0 x1∧s6 k x1 x2 x0 x2 x0 x1≤(lg.length:Int):=by cases k<;>exact hx3
 have hi2:(i1:Int)=max 0 (min (s6 k x1 x2 x0 x2 x0 x1-1) i):=by cases k<;>exact hi1
 have hz0:-1000000≤s6 k x1 x2 x0 x2 x0 x1∧s6 k x1 x2 x0 x2 x0 x1≤1000000:=by omega
 have T:=zra k cm vo (s6 k x0 x0 x1 x0 x1 x0) (s6 k x2 x1 x2 x1 x2 x2) x3 x4 y0 y1 y2 y3 y4
 cases k
 all_goals
  dsimp only [Lk,fk,s6] at *;change TriY _ _ [.one (.ptr 0 0 0),.agg [.val (iv 4),.val (iv _),.val (iv _),.val (iv tm),.val (iv i),.val (iv 0),.val (iv 0),.val (.bool false),.val (.slice none 0 0)]] _ _ _
  refine zgr (TriY.toY (T (X:=⟨⟨tm,v,lg⟩,diskB sumN rs,((diskB sumN rs).length:Int)⟩) (W:=W) (a4:=by dsimp only;omega) (a5:=by omega) (a6:=by dsimp only;omega) (a7:=by omega) (hlb:=hF.len) (i1:=i1) (hi:=hi2) (hi1:=by dsimp only;omega) (hz:=hz0) ..) fun y=>⟨⟨y.1,[y.2],outs3 rfl (by simp [MK.msg])⟩,?_⟩)
  simp only [zbm];rfl
theorem zet (k:K6) (ht:1≤t∧t≤1000000) (hF:LogOk t F) (hr:RInv (Lk k) t F d (Lk k) r) (hl:r.j.log=F) (htm:r.j.term=t) (hro:r.role=3) (hm3:0≤r.mt (fk k)∧r.mt (fk k)≤F.length):HOk r ((MK.good (fk k)).msg (Lk k) t F):=by
 intro W p hp
 obtain rfl:=hp (by simp [MK.msg])
 obtain ⟨r1,e1,e2⟩:=zwl (f:=fk k) (by cases k<;>decide) (by cases k<;>decide) (by cases k<;>decide) ht hF hr hl htm hro hm3.2
 rw [e2,zg4];clear e2
 have hb9:=hF.len
 have hid:=hr.id
 have hn:=hr.n
 have htp:=hr.tt
 have hcc:=hr.c0
 obtain ⟨x0,x1,x2,x3,x4,hx⟩:=five hr.nl;obtain ⟨y0,y1,y2,y3,y4,hy⟩:=five hr.ml;obtain ⟨id,n,ro,cm,vo,nx,mt,⟨tm,v,lg⟩,rs⟩:=r;dsimp only at hid hn hro htm hl hx hy hcc;subst hid hn hro htm hl hx hy
 have hz:0≤s6 k y1 y2 y0 y2 y0 y1∧s6 k y1 y2 y0 y2 y0 y1≤(lg.length:Int):=by cases k<;>exact hm3
 obtain ⟨ll,hll⟩:∃ q:Int,q=(lg.length:Int):=⟨_,rfl⟩
 have hh:∀ m:Nat,r1.holders m=1+(if (m:Int)≤s6 k ll y1 ll y0 ll y0 then 1 else 0)+(if (m:Int)≤s6 k y2 ll y2 ll y1 ll then 1 else 0):=by
  intro m;rw [e1]
  cases k
  all_goals
   show 1+((([0,1,2]:List Nat).filter _).length:Int)=_
   simp only [List.filter_cons,List.filter_nil,RepD.mt,List.set,List.getD_eq_getElem?_getD,s6,hll]
   by_cases h1:(m:Int)≤lg.length<;>by_cases ha:(m:Int)≤y0<;>by_cases hb:(m:Int)≤y1<;>by_cases hc:(m:Int)≤y2<;>simp [h1,ha,hb,hc]
 have hn1:r1.n=3:=by rw [e1]
 have hc1:r1.commit=cm:=by rw [e1]
 have hj1:r1.j=⟨tm,v,lg⟩:=by rw [e1]
 have T:=@zn8 k
 cases k
 all_goals
  dsimp only [Lk,fk,s6] at *;change TriY _ _ [.one (.ptr 0 0 0),.agg [.val (iv 4),.val (iv _),.val (iv _),.val (iv tm),.val (iv lg.length),.val (iv 0),.val (iv 0),.val (.bool true),.val (.slice none 0 0)]] _ _ _
  refine zgr (TriX.toY (T cm vo x0 x1 x2 x3 x4 y0 y1 y2 y3 y4 (X:=⟨⟨tm,v,lg⟩,diskB sumN rs,((diskB sumN rs).length:Int)⟩) (W:=W) (index:=lg.length) (prev:=0) (commit:=0) (a4:=by dsimp only;omega) (a5:=by omega) (a6:=by dsimp only;omega) (a7:=by omega) (hlb:=hF.len) (Z:=lg.length) (hZ:=by omega) (hix:=by dsimp only;omega) (hcm:=hcc.1) (C:=advC r1) (h0:=fun m h=>by rw [zgg r1 m (by omega),hc1]) (h1:=fun m h h2=>zge r1 m (by omega) (by omega) (by rw [hj1];exact h2)) (h2:=fun m h h2 h3=>zgf r1 m (by omega) (by omega) (by rw [hj1];exact h2) (by rw [hh,hn1];(repeat' split)<;>omega)) (h3:=fun m h h2 h3=>zhp r1 m (by omega) (by omega) (by rw [hh,hn1];(repeat' split)<;>omega)) ..) fun W'=>⟨⟨W',[],outs3 rfl (by nofun)⟩,?_⟩)
  rw [hj1,e1];rfl
end
def NoCut (l:List Rec):Prop:=∀ n,Rec.cut n ∉ l
theorem NoCut.app {a b:List Rec} (h:NoCut a) (h2:NoCut b):NoCut (a++b):=fun n hn=>(List.mem_append.1 hn).elim (h n) (h2 n)
theorem zk3 (r:RepD) (t:Int):NoCut (adR r t):=by
 unfold adR
 split<;>intro n hn<;>simp at hn
theorem zr3 (l:LogD):NoCut (l.map fun x=>.ent x.1 x.2):=fun n hn=>by
 obtain ⟨x,_,h⟩:=List.mem_map.1 hn
 cases h
def NC (q:QuoD):Prop:=∀ i:Nat,i<q.reps.length→NoCut (q.rep i).recs
theorem six {L f:Nat} (hL:L<3) (hf:f<3) (hne:f≠L):(L=0∧f=1)∨(L=0∧f=2)∨(L=1∧f=0)∨(L=1∧f=2)∨(L=2∧f=0)∨(L=2∧f=1):=by omega
section
variable {K:Nat} {up:Int} {L:Nat} {t:Int} {F:LogD} {lead:Bool} {k:MK} {ks:List MK} {q:QuoD}
theorem qch (h:FInv K up L t F lead (k::ks) q) (hK:K≤3000) (hFl:F.length≤2000) :
 HOk (q.rep (k.msg L t F).to) (k.msg L t F)∧((q.rep (k.msg L t F).to).handle (k.msg L t F)).2.length≤3∧(NoCut (q.rep (k.msg L t F).to).recs→NoCut ((q.rep (k.msg L t F).to).handle (k.msg L t F)).1.recs)∧(0≤(k.msg L t F).src∧(k.msg L t F).src<5)∧(0≤(k.msg L t F).to∧(k.msg L t F).to<q.reps.length):=by
 obtain ⟨h1,h2,h3⟩:=h.kinv k (by simp)
 have hL:=h.L3
 have hlen:=h.len
 have hF:=h.lg
 have ht:=h.t1
 have hdn:=h.done.2
 have hd4:q.done.length≤4096:=by have:=hF.len;omega
 have hrec:∀ i:Nat,i<3→(q.rep i).recs.length≤5000:=fun i hi=>by
  have:=h.recs i hi
  have:=(h.reps i hi).pre.length_le
  omega
 have hl:=h.ldr.log
 have htm:=h.ldr.term
 cases k with
 | vote f =>
   replace h1:f<3:=h1;replace h2:f≠L:=h2
   have hr:=h.reps f h1
   refine ⟨zzt hL h1 h2 ht hF hr (hrec f h1) hFl,?_,?_,by simp only [MK.msg];omega,by simp only [MK.msg];omega⟩
   ·show ((q.rep (f:Nat)).handle ((MK.vote f).msg L t F)).2.length≤3
    rw [zo6 hL h1 h2 ht hF hr];simp
   ·intro hn
    show NoCut ((q.rep (f:Nat)).handle ((MK.vote f).msg L t F)).1.recs
    rw [zo6 hL h1 h2 ht hF hr]
    exact (NoCut.app hn (zk3 _ _)).app (by intro n hn;simp at hn)
 | app f i c =>
   replace h1:f<3:=h1;replace h2:f≠L:=h2
   have hr:=h.reps f h1
   obtain ⟨_,h5,h6,h7⟩:=h3
   refine ⟨qcg hL h1 h2 ht hF hr hd4 h5 ⟨h6,h7⟩ (hrec f h1) hFl,?_,?_,by simp only [MK.msg];omega,by simp only [MK.msg];omega⟩
   ·show ((q.rep (f:Nat)).handle ((MK.app f i c).msg L t F)).2.length≤3
    rw [zwm hL h1 h2 ht hF hr hd4 h5 ⟨h6,h7⟩];split<;>simp
   ·intro hn
    show NoCut ((q.rep (f:Nat)).handle ((MK.app f i c).msg L t F)).1.recs
    rw [zwm hL h1 h2 ht hF hr hd4 h5 ⟨h6,h7⟩]
    split
    ·exact (NoCut.app hn (zk3 _ _)).app (zr3 _)
    ·exact NoCut.app hn (zk3 _ _)
 | voted f =>
   replace h1:f<3:=h1;replace h2:f≠L:=h2
   have hr:=h.reps L hL
   have hto:0≤((MK.voted f).msg L t F).to∧((MK.voted f).msg L t F).to<q.reps.length:=by simp only [MK.msg];omega
   have hsr:0≤((MK.voted f).msg L t F).src∧((MK.voted f).msg L t F).src<5:=by simp only [MK.msg];omega
   show HOk (q.rep (L:Nat)) _∧((q.rep (L:Nat)).handle _).2.length≤3∧(NoCut (q.rep (L:Nat)).recs→NoCut ((q.rep (L:Nat)).handle _).1.recs)∧_
   cases hld:lead with
   | false =>
     obtain ⟨hro,hv⟩:=h.ldr.cand hld;obtain ⟨r1,e1,e2⟩:=zqe hL h1 h2 ht hF hr htm hro hv;refine ⟨?_,?_,?_,hsr,hto⟩
     ·rcases six hL h1 h2 with ⟨rfl,rfl⟩|⟨rfl,rfl⟩|⟨rfl,rfl⟩|⟨rfl,rfl⟩|⟨rfl,rfl⟩|⟨rfl,rfl⟩
      ·exact zdh .a ht hF hr hd4 hl htm hro hv
      ·exact zdh .b ht hF hr hd4 hl htm hro hv
      ·exact zdh .c ht hF hr hd4 hl htm hro hv
      ·exact zdh .d ht hF hr hd4 hl htm hro hv
      ·exact zdh .e ht hF hr hd4 hl htm hro hv
      ·exact zdh .f ht hF hr hd4 hl htm hro hv
     ·rw [e2,zbk (L:=L) (by rw [e1];exact hr.id) (by rw [e1];exact hr.n),List.length_map]
      exact Nat.le_trans (List.length_filter_le _ _) (by simp)
     ·rw [e2,e1];exact id
   | true =>
     obtain ⟨hro,_⟩:=h.ldr.ldr hld;refine ⟨?_,?_,?_,hsr,hto⟩
     ·rcases six hL h1 h2 with ⟨rfl,rfl⟩|⟨rfl,rfl⟩|⟨rfl,rfl⟩|⟨rfl,rfl⟩|⟨rfl,rfl⟩|⟨rfl,rfl⟩
      ·exact zes .a ht hF hr hl htm hro
      ·exact zes .b ht hF hr hl htm hro
      ·exact zes .c ht hF hr hl htm hro
      ·exact zes .d ht hF hr hl htm hro
      ·exact zes .e ht hF hr hl htm hro
      ·exact zes .f ht hF hr hl htm hro
     ·rw [zc4 hL h1 h2 ht hF hr htm hro];simp
     ·rw [zc4 hL h1 h2 ht hF hr htm hro];exact id
 | good f =>
   replace h1:f<3:=h1;replace h2:f≠L:=h2
   have hr:=h.reps L hL
   have hto:0≤((MK.good f).msg L t F).to∧((MK.good f).msg L t F).to<q.reps.length:=by simp only [MK.msg];omega
   have hsr:0≤((MK.good f).msg L t F).src∧((MK.good f).msg L t F).src<5:=by simp only [MK.msg];omega
   show HOk (q.rep (L:Nat)) _∧((q.rep (L:Nat)).handle _).2.length≤3∧(NoCut (q.rep (L:Nat)).recs→NoCut ((q.rep (L:Nat)).handle _).1.recs)∧_
   obtain ⟨hro,hx⟩:=h.ldr.ldr h3.1
   have hxf:=hx f h1 h2
   have hpl:=(h.reps f h1).pre.length_le
   have hm:(q.rep (L:Nat)).mt f≤F.length:=by omega
   obtain ⟨r1,e1,e2⟩:=zwl hL h1 h2 ht hF hr hl htm hro hm;refine ⟨?_,?_,?_,hsr,hto⟩
   ·rcases six hL h1 h2 with ⟨rfl,rfl⟩|⟨rfl,rfl⟩|⟨rfl,rfl⟩|⟨rfl,rfl⟩|⟨rfl,rfl⟩|⟨rfl,rfl⟩
    ·exact zet .a ht hF hr hl htm hro ⟨hxf.2.2.1,hm⟩
    ·exact zet .b ht hF hr hl htm hro ⟨hxf.2.2.1,hm⟩
    ·exact zet .c ht hF hr hl htm hro ⟨hxf.2.2.1,hm⟩
    ·exact zet .d ht hF hr hl htm hro ⟨hxf.2.2.1,hm⟩
    ·exact zet .e ht hF hr hl htm hro ⟨hxf.2.2.1,hm⟩
    ·exact zet .f ht hF hr hl htm hro ⟨hxf.2.2.1,hm⟩
   ·rw [e2];simp
   ·rw [e2,zg4,e1];exact id
 | bad f i =>
   replace h1:f<3:=h1;replace h2:f≠L:=h2
   have hr:=h.reps L hL
   have hto:0≤((MK.bad f i).msg L t F).to∧((MK.bad f i).msg L t F).to<q.reps.length:=by simp only [MK.msg];omega
   have hsr:0≤((MK.bad f i).msg L t F).src∧((MK.bad f i).msg L t F).src<5:=by simp only [MK.msg];omega
   show HOk (q.rep (L:Nat)) _∧((q.rep (L:Nat)).handle _).2.length≤3∧(NoCut (q.rep (L:Nat)).recs→NoCut ((q.rep (L:Nat)).handle _).1.recs)∧_
   obtain ⟨hro,hx⟩:=h.ldr.ldr h3.1
   have hxf:=hx f h1 h2
   have hpl:=(h.reps f h1).pre.length_le
   have hi:i≤F.length:=Nat.le_trans h3.2 hpl
   obtain ⟨r1,e1,e2⟩:=qax hL h1 h2 ht hF hr htm hro hi;refine ⟨?_,?_,?_,hsr,hto⟩
   ·rcases six hL h1 h2 with ⟨rfl,rfl⟩|⟨rfl,rfl⟩|⟨rfl,rfl⟩|⟨rfl,rfl⟩|⟨rfl,rfl⟩|⟨rfl,rfl⟩
    ·exact zgv .a ht hF hr hl htm hro ⟨hxf.1,hxf.2.1⟩ hi
    ·exact zgv .b ht hF hr hl htm hro ⟨hxf.1,hxf.2.1⟩ hi
    ·exact zgv .c ht hF hr hl htm hro ⟨hxf.1,hxf.2.1⟩ hi
    ·exact zgv .d ht hF hr hl htm hro ⟨hxf.1,hxf.2.1⟩ hi
    ·exact zgv .e ht hF hr hl htm hro ⟨hxf.1,hxf.2.1⟩ hi
    ·exact zgv .f ht hF hr hl htm hro ⟨hxf.1,hxf.2.1⟩ hi
   ·rw [e2];simp
   ·rw [e2,e1];exact id
theorem zi9 {q:QuoD} {m:MsgD} {r:List MsgD} (hto:0≤m.to∧m.to<q.reps.length) (i:Nat):(QuoD.deliver { q with net:=r } m).rep i=if (i:Int)=m.to then ((q.rep m.to).handle m).1 else q.rep i:=by
 have e:(QuoD.deliver { q with net:=r } m).rep i=({ q with reps:=q.reps.set m.to.toNat ((q.rep m.to).handle m).1 }:QuoD).rep i:=rfl
 rw [e,zdo (by omega)]
 exact zeb (by omega)
theorem flok:∀ (fuel c:Nat) (lead:Bool) (ks:List MK) (q:QuoD),FInv K up L t F lead ks q→mu (lensQ q) ks≤fuel→c+mu (lensQ q) ks≤5000→K≤3000→F.length≤2000→FlOk up fuel c q∧(NC q→NC (QuoD.flush fuel up c q))
 | 0, c, lead, ks, q, h, hf, _, _, _ => by
   have h1:=zio (lensQ q) ks
   have h2:ks=[]:=List.eq_nil_of_length_eq_zero (by omega)
   subst h2;exact ⟨h.net,id⟩
 | fuel + 1, c, lead, [], q, h, _, _, _, _ => by
   have hn:q.net=[]:=h.net
   rw [QuoD.flush,FlOk,hn];exact ⟨trivial,id⟩
 | fuel + 1, c, lead, k :: ks, q, h, hf, hc, hK, hFl => by
   have hnet:q.net=k.msg L t F::ks.map (MK.msg L t F):=h.net
   have hw:=qbd (lensQ q) k
   have hm:=zb4 (lensQ q) k ks
   have hml:=zio (lensQ q) ks
   have hsm:=h.small
   obtain ⟨a1,a2,a3,a4,a5⟩:=qch h hK hFl;rw [QuoD.flush,FlOk,hnet];simp only
   rw [if_neg (show ¬ 5000≤c by omega)]
   by_cases hup:QuoD.upB up (k.msg L t F).src=false∨QuoD.upB up (k.msg L t F).to=false
   ·rw [if_pos hup,if_pos hup]
    have hd:=zkb h ((zsp h.upL k).1 hup)
    have hl:lensQ { q with net:=ks.map (MK.msg L t F) }=lensQ q:=rfl
    obtain ⟨b1,b2⟩:=flok fuel c lead ks _ hd (by rw [hl];omega) (by rw [hl];omega) hK hFl
    exact ⟨⟨by omega,a4,a5,b1⟩,fun hn=>b2 hn⟩
   ·rw [if_neg hup,if_neg hup]
    obtain ⟨lead',new,q',h1,h2,h3,h7,h4⟩:=fstep h
    obtain ⟨b1,b2⟩:=flok fuel (c+1) lead' _ q' h2 (by omega) (by omega) hK hFl
    refine ⟨⟨by omega,a4,a5,a1,by simp;omega,fun i hi r' hr'=>?_,by rw [h1];exact b1⟩,fun hn=>?_⟩
    ·have hi3:i<3:=by have:=h.len;omega
     have e:=zi9 (q:=q) (r:=ks.map (MK.msg L t F)) a5 i
     rw [h1] at e
     have hri:=h2.reps i hi3
     rw [e,←hr'] at hri
     have:=hri.c0
     have:=hri.pre.length_le
     have:=h2.lg.len
     omega
    ·rw [h1]
     refine b2 fun i hi=>?_
     have e:=zi9 (q:=q) (r:=ks.map (MK.msg L t F)) a5 i
     rw [h1] at e;rw [e]
     have hlen':i<q.reps.length:=by have:=h.len;have:=h2.len;omega
     split
     ·exact a3 (by have:=hn (k.msg L t F).to.toNat (by omega);rwa [Int.toNat_of_nonneg a5.1] at this)
     ·exact hn i hlen'
end
theorem znw:∀ (rs:List Rec) (j k:JSt) (x:Rec),j.apps (rs++[x])=some k→∃ m,j.apps rs=some m∧(m.app x).1=0∧(m.app x).2=k
 | [], j, k, x, h => by
   simp only [List.nil_append,JSt.apps] at h
   split at h
   ·rename_i h0
    exact ⟨j,rfl,h0,by simpa using h⟩
   ·cases h
 | y :: rs, j, k, x, h => by
   rw [List.cons_append,JSt.apps] at h
   split at h
   ·rename_i h0
    obtain ⟨m,h1,h2⟩:=znw rs _ k x h
    exact ⟨m,by rw [JSt.apps,if_pos h0];exact h1,h2⟩
   ·cases h
theorem zwn:∀ (n:Nat) (rs:List Rec) (j:JSt),rs.length=n→JSt.new.apps rs=some j→NoCut rs→Hist rs j
 | 0, rs, j, hn, h, _ => by
   obtain rfl:=List.eq_nil_of_length_eq_zero hn;simp only [JSt.apps,Option.some.injEq] at h;subst h;exact .nil
 | n + 1, rs, j, hn, h, hc => by
   obtain ⟨init,x,rfl⟩:∃ init x,rs=init++[x]:=⟨rs.dropLast,rs.getLast (by rintro rfl;simp at hn),(List.dropLast_concat_getLast _).symm⟩
   obtain ⟨m,h1,h2,h3⟩:=znw init _ j x h
   have ih:=zwn n init m (by simpa using hn) h1 (fun k hk=>hc k (by simp [hk]))
   have hgood:RecGood m x∧stepJ m x=j:=by
    rw [←h3]
    cases x with
    | cut k=>exact absurd (by simp) (hc k)
    | term a b =>
      simp only [JSt.app,JSt.setTerm] at h2 ⊢
      split at h2
      ·simp at h2
      ·split at h2
       ·simp at h2
       ·rename_i g1 g2
        rw [if_neg g1,if_neg g2]
        refine ⟨⟨by omega,by omega,by omega,fun e=>?_⟩,rfl⟩
        by_cases g3:m.vote=-1
        ·exact .inl g3
        ·by_cases g4:m.vote=b
         ·exact .inr g4
         ·exact absurd (.inr ⟨e.symm,g3,g4⟩) g2
    | ent a e =>
      simp only [JSt.app,JSt.add] at h2 ⊢
      split at h2
      ·simp at h2
      ·split at h2
       ·simp at h2
       ·split at h2
        ·simp at h2
        ·rename_i g1 g2 g3
         rw [if_neg g1,if_neg g2,if_neg g3]
         have hs:shapeB e=true:=by
          cases hb:shapeB e with
          | true=>rfl
          | false=>exact absurd (.inr (.inr hb)) g1
         refine ⟨⟨zem hs,zen hs,by omega,by omega,?_,by omega⟩,rfl⟩
         rw [zat] at g2;rw [zbm];omega
   have:=Hist.snoc ih hgood.1
   rwa [hgood.2] at this
theorem kok {r:RepD} (hd:r.Disk) (hc:NoCut r.recs) (hrec:r.recs.length≤5000):KOk r:=by
 intro W keep
 have hl:=zb2 r.recs
 exact zq8 _ _ _ _ _ _ _ _ _ _ _ _ _ _ _ r.recs r.j (zwn _ r.recs r.j rfl hd hc) (by omega) keep W
theorem zk9 {r:RepD} (ht:0≤r.j.term∧r.j.term<1073741824) (hid:0≤r.id∧r.id<5):r.campaign=if r.n=1 then (({ r with role:=2,votes:=2 ^ r.id.toNat,j:=⟨r.j.term+1,r.id,r.j.log⟩,recs:=r.recs++[.term (r.j.term+1) r.id] }:RepD).lead,[])
 else ({ r with role:=2,votes:=2 ^ r.id.toNat,j:=⟨r.j.term+1,r.id,r.j.log⟩,recs:=r.recs++[.term (r.j.term+1) r.id] },r.others fun to=>⟨1,r.id,to,r.j.term+1,r.len,r.lastTerm,0,false,[]⟩):=by
 unfold RepD.campaign
 rw [if_neg (by omega),zbi (by omega) (by omega) (by omega) (by omega)]
 rfl
theorem cok0 {r:RepD} (hid:r.id=0) (hn:r.n=3) (ht:0≤r.j.term∧r.j.term<1073741824) (hlb:r.j.log.length≤4096) (hrec:r.recs.length≤5000):COk r∧r.campaign.2.length=2∧r.campaign.1.recs=r.recs++[.term (r.j.term+1) r.id]:=by
 have he:=zk9 ht (by omega)
 rw [if_neg (by omega),zbk (L:=0) (by exact hid) hn,show oth 0=[1,2] by decide] at he
 refine ⟨fun W=>?_,by rw [he];rfl,by rw [he]⟩
 rw [he]
 have hl:=zb2 r.recs
 obtain ⟨id,n,ro,cm,vo,nx,mt,⟨tm,v,lg⟩,rs⟩:=r;dsimp only at hid hn ht hlb hrec hl;subst hid hn
 refine TriX.toY (zgi .a (t:=tm) (v:=v) (lg:=lg) (D:=diskB sumN rs) (W:=W) (ht:=ht) (hlb:=hlb) (hb:=by omega) ..) fun W'=>⟨⟨W',[(0,0),(0,0)],⟨rfl,fun i m p h1 h2 _=>?_⟩⟩,?_⟩
 ·rcases i with _|_|i
  ·simpa using h2.symm
  ·simpa using h2.symm
  ·simp at h1
 ·have hD:diskB sumN (rs++[.term (tm+1) 0])=diskB sumN rs++frameB sumN (Rec.term (tm+1) 0).bytes:=by rw [zbb];simp [diskB]
  simp only [RB,repJ,hD,zbm];rfl
theorem cok1 {r:RepD} (hid:r.id=1) (hn:r.n=3) (ht:0≤r.j.term∧r.j.term<1073741824) (hlb:r.j.log.length≤4096) (hrec:r.recs.length≤5000):COk r∧r.campaign.2.length=2∧r.campaign.1.recs=r.recs++[.term (r.j.term+1) r.id]:=by
 have he:=zk9 ht (by omega)
 rw [if_neg (by omega),zbk (L:=1) (by exact hid) hn,show oth 1=[0,2] by decide] at he
 refine ⟨fun W=>?_,by rw [he];rfl,by rw [he]⟩
 rw [he]
 have hl:=zb2 r.recs
 obtain ⟨id,n,ro,cm,vo,nx,mt,⟨tm,v,lg⟩,rs⟩:=r;dsimp only at hid hn ht hlb hrec hl;subst hid hn
 refine TriX.toY (zgi .b (t:=tm) (v:=v) (lg:=lg) (D:=diskB sumN rs) (W:=W) (ht:=ht) (hlb:=hlb) (hb:=by omega) ..) fun W'=>⟨⟨W',[(0,0),(0,0)],⟨rfl,fun i m p h1 h2 _=>?_⟩⟩,?_⟩
 ·rcases i with _|_|i
  ·simpa using h2.symm
  ·simpa using h2.symm
  ·simp at h1
 ·have hD:diskB sumN (rs++[.term (tm+1) 1])=diskB sumN rs++frameB sumN (Rec.term (tm+1) 1).bytes:=by rw [zbb];simp [diskB]
  simp only [RB,repJ,hD,zbm];rfl
theorem cok2 {r:RepD} (hid:r.id=2) (hn:r.n=3) (ht:0≤r.j.term∧r.j.term<1073741824) (hlb:r.j.log.length≤4096) (hrec:r.recs.length≤5000):COk r∧r.campaign.2.length=2∧r.campaign.1.recs=r.recs++[.term (r.j.term+1) r.id]:=by
 have he:=zk9 ht (by omega)
 rw [if_neg (by omega),zbk (L:=2) (by exact hid) hn,show oth 2=[0,1] by decide] at he
 refine ⟨fun W=>?_,by rw [he];rfl,by rw [he]⟩
 rw [he]
 have hl:=zb2 r.recs
 obtain ⟨id,n,ro,cm,vo,nx,mt,⟨tm,v,lg⟩,rs⟩:=r;dsimp only at hid hn ht hlb hrec hl;subst hid hn
 refine TriX.toY (zgi .c (t:=tm) (v:=v) (lg:=lg) (D:=diskB sumN rs) (W:=W) (ht:=ht) (hlb:=hlb) (hb:=by omega) ..) fun W'=>⟨⟨W',[(0,0),(0,0)],⟨rfl,fun i m p h1 h2 _=>?_⟩⟩,?_⟩
 ·rcases i with _|_|i
  ·simpa using h2.symm
  ·simpa using h2.symm
  ·simp at h1
 ·have hD:diskB sumN (rs++[.term (tm+1) 2])=diskB sumN rs++frameB sumN (Rec.term (tm+1) 2).bytes:=by rw [zbb];simp [diskB]
  simp only [RB,repJ,hD,zbm];rfl
theorem cokN {r:RepD} (hid:r.id=0) (hn:r.n=1) (hnl:r.next.length=5) (hml:r.mtch.length=5) (ht:0≤r.j.term∧r.j.term<1073741824) (hlb:r.j.log.length≤4096) (hrec:r.recs.length≤5000):COk r∧r.campaign.2.length=0∧r.campaign.1.recs=r.recs++[.term (r.j.term+1) r.id]:=by
 have he:=zk9 ht (by omega)
 rw [if_pos hn] at he
 refine ⟨fun W=>?_,by rw [he];rfl,by rw [he];rfl⟩
 rw [he]
 have hl:=zb2 r.recs
 obtain ⟨x0,x1,x2,x3,x4,hx⟩:=five hnl;obtain ⟨y0,y1,y2,y3,y4,hy⟩:=five hml;obtain ⟨id,n,ro,cm,vo,nx,mt,⟨tm,v,lg⟩,rs⟩:=r;dsimp only at hid hn ht hlb hrec hl hx hy;subst hid hn hx hy
 refine TriX.toY (zq9 ro cm vo x0 x1 x2 x3 x4 y0 y1 y2 y3 y4 (t:=tm) (v:=v) (lg:=lg) (D:=diskB sumN rs) (W:=W) (ht:=ht) (hlb:=hlb) (hb:=by omega)) fun W'=>⟨⟨W',[],outs3 rfl (by nofun)⟩,?_⟩
 have hD:diskB sumN (rs++[.term (tm+1) 0])=diskB sumN rs++frameB sumN (Rec.term (tm+1) 0).bytes:=by rw [zbb];simp [diskB]
 simp only [RB,repJ,RepD.lead,hD];rfl
theorem zk8 {r:RepD} {e:EnD} (hro:r.role=3) (ht:1≤r.j.term∧r.j.term≤1073741824) (hs:shapeB e=true) (hla:tAt r.j.log (r.j.log.length-1)≤r.j.term) (hlen:r.j.log.length<4096) :
 ∃ r0:RepD,r0={ r with j:={ r.j with log:=r.j.log++[(r.j.term,e)] },recs:=r.recs++[.ent r.j.term e] }∧r.propose e=(r0.advance,r0.advance.others r0.advance.appending,0):=by
 refine ⟨_,rfl,?_⟩;unfold RepD.propose
 rw [if_neg (fun h=>h hro),if_neg (by rw [zqx ht hs (Int.le_refl _) hla hlen];simp),zid ht hs (Int.le_refl _) hla hlen]
theorem pok0 {r:RepD} {e:EnD} (hid:r.id=0) (hn:r.n=3) (hnl:r.next.length=5) (hml:r.mtch.length=5) (hro:r.role=3) (ht:1≤r.j.term∧r.j.term≤1073741824) (hs:shapeB e=true) (hla:tAt r.j.log (r.j.log.length-1)≤r.j.term) (hlen:r.j.log.length<4096) (hc:0≤r.commit) (hx:∀ g:Nat,g<3→g≠0→0≤r.nx g∧r.nx g≤r.j.log.length) (hrec:r.recs.length≤5000):POk r e∧(r.propose e).2.1.length=2∧(r.propose e).1.recs=r.recs++[.ent r.j.term e]:=by
 obtain ⟨r0,e0,e1⟩:=zk8 hro ht hs hla hlen
 have hxa:=hx 1 (by omega) (by omega)
 have hxb:=hx 2 (by omega) (by omega)
 have hadv:=zg4 r0
 have e2:r0.advance.others r0.advance.appending=[r0.advance.appending 1,r0.advance.appending 2]:=by
  rw [zbk (L:=0) (by rw [hadv,e0];exact hid) (by rw [hadv,e0];exact hn),show oth 0=[1,2] by decide]
  rfl
 rw [e2] at e1
 refine ⟨⟨by rw [e1],fun W=>?_⟩,by rw [e1];rfl,by rw [e1,hadv,e0]⟩
 rw [e1,hadv];clear e1 e2 hadv
 have hl:=zb2 r.recs
 obtain ⟨x0,x1,x2,x3,x4,hx5⟩:=five hnl;obtain ⟨y0,y1,y2,y3,y4,hy5⟩:=five hml;obtain ⟨id,n,ro,cm,vo,nx,mt,⟨tm,v,lg⟩,rs⟩:=r;dsimp only at hid hn hro ht hs hla hlen hc hrec hl hx5 hy5 hxa hxb;subst hid hn hro hx5 hy5;clear hx
 have hza:0≤x1∧x1≤(lg.length:Int):=hxa
 have hzb:0≤x2∧x2≤(lg.length:Int):=hxb
 clear hxa hxb
 obtain ⟨ia,hia⟩:∃ ia:Nat,(ia:Int)=x1:=⟨x1.toNat,by omega⟩
 obtain ⟨ib,hib⟩:∃ ib:Nat,(ib:Int)=x2:=⟨x2.toNat,by omega⟩
 subst hia hib
 have hj0:r0.j=⟨tm,v,lg++[(tm,e)]⟩:=by rw [e0]
 have hc0:r0.commit=cm:=by rw [e0]
 have hn0:r0.n=3:=by rw [e0]
 have hh:∀ m:Nat,r0.holders m=1+(if (m:Int)≤y1 then 1 else 0)+(if (m:Int)≤y2 then 1 else 0):=by
  intro m;rw [e0]
  show 1+((([0,1,2]:List Nat).filter _).length:Int)=_
  simp only [List.filter_cons,List.filter_nil,RepD.mt,List.getD_eq_getElem?_getD]
  by_cases h1:(m:Int)≤y1<;>by_cases h2:(m:Int)≤y2<;>simp [h1,h2]
 refine TriY.toY (ze6 .a cm vo x0 x3 x4 y0 y1 y2 y3 y4 (t:=tm) (v:=v) (lg:=lg) (D:=diskB sumN rs) (W:=W) (e:=e) (tsh:=zem hs) (h6:=zen hs) (ht:=ht) (hlast:=by rw [zbm];exact hla) (hlen:=hlen) (hb:=by omega) (i1:=ia) (i2:=ib) (hi1:=by omega) (hi2:=by omega) (hcm:=hc) (C:=advC r0) (h0:=fun m h=>by rw [zgg r0 m (by omega),hc0]) (h1:=fun m h h2=>zge r0 m (by omega) (by omega) (by rw [hj0];exact h2)) (h2:=fun m h h2 h3=>zgf r0 m (by omega) (by omega) (by rw [hj0];exact h2) (by dsimp only [s3] at h3;rw [hh,hn0];split<;>split<;>omega)) (h3:=fun m h h2 h3=>zhp r0 m (by omega) (by omega) (by dsimp only [s3] at h3;rw [hh,hn0];split<;>split<;>omega))) fun y=>⟨⟨y.1,[y.2.1,y.2.2],outs3 rfl (by simp [RepD.appending,RepD.msg])⟩,?_⟩
 have hD:diskB sumN (rs++[.ent tm e])=diskB sumN rs++frameB sumN (Rec.ent tm e).bytes:=by rw [zbb];simp [diskB]
 subst e0;simp only [RB,repJ,hD,zbm];rfl
theorem pok1 {r:RepD} {e:EnD} (hid:r.id=1) (hn:r.n=3) (hnl:r.next.length=5) (hml:r.mtch.length=5) (hro:r.role=3) (ht:1≤r.j.term∧r.j.term≤1073741824) (hs:shapeB e=true) (hla:tAt r.j.log (r.j.log.length-1)≤r.j.term) (hlen:r.j.log.length<4096) (hc:0≤r.commit) (hx:∀ g:Nat,g<3→g≠1→0≤r.nx g∧r.nx g≤r.j.log.length) (hrec:r.recs.length≤5000):POk r e∧(r.propose e).2.1.length=2∧(r.propose e).1.recs=r.recs++[.ent r.j.term e]:=by
 obtain ⟨r0,e0,e1⟩:=zk8 hro ht hs hla hlen
 have hxa:=hx 0 (by omega) (by omega)
 have hxb:=hx 2 (by omega) (by omega)
 have hadv:=zg4 r0
 have e2:r0.advance.others r0.advance.appending=[r0.advance.appending 0,r0.advance.appending 2]:=by
  rw [zbk (L:=1) (by rw [hadv,e0];exact hid) (by rw [hadv,e0];exact hn),show oth 1=[0,2] by decide]
  rfl
 rw [e2] at e1
 refine ⟨⟨by rw [e1],fun W=>?_⟩,by rw [e1];rfl,by rw [e1,hadv,e0]⟩
 rw [e1,hadv];clear e1 e2 hadv
 have hl:=zb2 r.recs
 obtain ⟨x0,x1,x2,x3,x4,hx5⟩:=five hnl;obtain ⟨y0,y1,y2,y3,y4,hy5⟩:=five hml;obtain ⟨id,n,ro,cm,vo,nx,mt,⟨tm,v,lg⟩,rs⟩:=r;dsimp only at hid hn hro ht hs hla hlen hc hrec hl hx5 hy5 hxa hxb;subst hid hn hro hx5 hy5;clear hx
 have hza:0≤x0∧x0≤(lg.length:Int):=hxa
 have hzb:0≤x2∧x2≤(lg.length:Int):=hxb
 clear hxa hxb
 obtain ⟨ia,hia⟩:∃ ia:Nat,(ia:Int)=x0:=⟨x0.toNat,by omega⟩
 obtain ⟨ib,hib⟩:∃ ib:Nat,(ib:Int)=x2:=⟨x2.toNat,by omega⟩
 subst hia hib
 have hj0:r0.j=⟨tm,v,lg++[(tm,e)]⟩:=by rw [e0]
 have hc0:r0.commit=cm:=by rw [e0]
 have hn0:r0.n=3:=by rw [e0]
 have hh:∀ m:Nat,r0.holders m=1+(if (m:Int)≤y0 then 1 else 0)+(if (m:Int)≤y2 then 1 else 0):=by
  intro m;rw [e0]
  show 1+((([0,1,2]:List Nat).filter _).length:Int)=_
  simp only [List.filter_cons,List.filter_nil,RepD.mt,List.getD_eq_getElem?_getD]
  by_cases h1:(m:Int)≤y0<;>by_cases h2:(m:Int)≤y2<;>simp [h1,h2]
 refine TriY.toY (ze6 .b cm vo x1 x3 x4 y0 y1 y2 y3 y4 (t:=tm) (v:=v) (lg:=lg) (D:=diskB sumN rs) (W:=W) (e:=e) (tsh:=zem hs) (h6:=zen hs) (ht:=ht) (hlast:=by rw [zbm];exact hla) (hlen:=hlen) (hb:=by omega) (i1:=ia) (i2:=ib) (hi1:=by omega) (hi2:=by omega) (hcm:=hc) (C:=advC r0) (h0:=fun m h=>by rw [zgg r0 m (by omega),hc0]) (h1:=fun m h h2=>zge r0 m (by omega) (by omega) (by rw [hj0];exact h2)) (h2:=fun m h h2 h3=>zgf r0 m (by omega) (by omega) (by rw [hj0];exact h2) (by dsimp only [s3] at h3;rw [hh,hn0];split<;>split<;>omega)) (h3:=fun m h h2 h3=>zhp r0 m (by omega) (by omega) (by dsimp only [s3] at h3;rw [hh,hn0];split<;>split<;>omega))) fun y=>⟨⟨y.1,[y.2.1,y.2.2],outs3 rfl (by simp [RepD.appending,RepD.msg])⟩,?_⟩
 have hD:diskB sumN (rs++[.ent tm e])=diskB sumN rs++frameB sumN (Rec.ent tm e).bytes:=by rw [zbb];simp [diskB]
 subst e0;simp only [RB,repJ,hD,zbm];rfl
theorem pok2 {r:RepD} {e:EnD} (hid:r.id=2) (hn:r.n=3) (hnl:r.next.length=5) (hml:r.mtch.length=5) (hro:r.role=3) (ht:1≤r.j.term∧r.j.term≤1073741824) (hs:shapeB e=true) (hla:tAt r.j.log (r.j.log.length-1)≤r.j.term) (hlen:r.j.log.length<4096) (hc:0≤r.commit) (hx:∀ g:Nat,g<3→g≠2→0≤r.nx g∧r.nx g≤r.j.log.length) (hrec:r.recs.length≤5000):POk r e∧(r.propose e).2.1.length=2∧(r.propose e).1.recs=r.recs++[.ent r.j.term e]:=by
 obtain ⟨r0,e0,e1⟩:=zk8 hro ht hs hla hlen
 have hxa:=hx 0 (by omega) (by omega)
 have hxb:=hx 1 (by omega) (by omega)
 have hadv:=zg4 r0
 have e2:r0.advance.others r0.advance.appending=[r0.advance.appending 0,r0.advance.appending 1]:=by
  rw [zbk (L:=2) (by rw [hadv,e0];exact hid) (by rw [hadv,e0];exact hn),show oth 2=[0,1] by decide]
  rfl
 rw [e2] at e1
 refine ⟨⟨by rw [e1],fun W=>?_⟩,by rw [e1];rfl,by rw [e1,hadv,e0]⟩
 rw [e1,hadv];clear e1 e2 hadv
 have hl:=zb2 r.recs
 obtain ⟨x0,x1,x2,x3,x4,hx5⟩:=five hnl;obtain ⟨y0,y1,y2,y3,y4,hy5⟩:=five hml;obtain ⟨id,n,ro,cm,vo,nx,mt,⟨tm,v,lg⟩,rs⟩:=r;dsimp only at hid hn hro ht hs hla hlen hc hrec hl hx5 hy5 hxa hxb;subst hid hn hro hx5 hy5;clear hx
 have hza:0≤x0∧x0≤(lg.length:Int):=hxa
 have hzb:0≤x1∧x1≤(lg.length:Int):=hxb
 clear hxa hxb
 obtain ⟨ia,hia⟩:∃ ia:Nat,(ia:Int)=x0:=⟨x0.toNat,by omega⟩
 obtain ⟨ib,hib⟩:∃ ib:Nat,(ib:Int)=x1:=⟨x1.toNat,by omega⟩
 subst hia hib
 have hj0:r0.j=⟨tm,v,lg++[(tm,e)]⟩:=by rw [e0]
 have hc0:r0.commit=cm:=by rw [e0]
 have hn0:r0.n=3:=by rw [e0]
 have hh:∀ m:Nat,r0.holders m=1+(if (m:Int)≤y0 then 1 else 0)+(if (m:Int)≤y1 then 1 else 0):=by
  intro m;rw [e0]
  show 1+((([0,1,2]:List Nat).filter _).length:Int)=_
  simp only [List.filter_cons,List.filter_nil,RepD.mt,List.getD_eq_getElem?_getD]
  by_cases h1:(m:Int)≤y0<;>by_cases h2:(m:Int)≤y1<;>simp [h1,h2]
 refine TriY.toY (ze6 .c cm vo x2 x3 x4 y0 y1 y2 y3 y4 (t:=tm) (v:=v) (lg:=lg) (D:=diskB sumN rs) (W:=W) (e:=e) (tsh:=zem hs) (h6:=zen hs) (ht:=ht) (hlast:=by rw [zbm];exact hla) (hlen:=hlen) (hb:=by omega) (i1:=ia) (i2:=ib) (hi1:=by omega) (hi2:=by omega) (hcm:=hc) (C:=advC r0) (h0:=fun m h=>by rw [zgg r0 m (by omega),hc0]) (h1:=fun m h h2=>zge r0 m (by omega) (by omega) (by rw [hj0];exact h2)) (h2:=fun m h h2 h3=>zgf r0 m (by omega) (by omega) (by rw [hj0];exact h2) (by dsimp only [s3] at h3;rw [hh,hn0];split<;>split<;>omega)) (h3:=fun m h h2 h3=>zhp r0 m (by omega) (by omega) (by dsimp only [s3] at h3;rw [hh,hn0];split<;>split<;>omega))) fun y=>⟨⟨y.1,[y.2.1,y.2.2],outs3 rfl (by simp [RepD.appending,RepD.msg])⟩,?_⟩
 have hD:diskB sumN (rs++[.ent tm e])=diskB sumN rs++frameB sumN (Rec.ent tm e).bytes:=by rw [zbb];simp [diskB]
 subst e0;simp only [RB,repJ,hD,zbm];rfl
theorem pokN {r:RepD} {e:EnD} (hid:r.id=0) (hn:r.n=1) (hnl:r.next.length=5) (hml:r.mtch.length=5) (hro:r.role=3) (ht:1≤r.j.term∧r.j.term≤1073741824) (hs:shapeB e=true) (hla:tAt r.j.log (r.j.log.length-1)≤r.j.term) (hlen:r.j.log.length<4096) (hc:0≤r.commit) (hrec:r.recs.length≤5000):POk r e∧(r.propose e).2.1.length=0∧(r.propose e).1.recs=r.recs++[.ent r.j.term e]:=by
 obtain ⟨r0,e0,e1⟩:=zk8 hro ht hs hla hlen
 have hadv:=zg4 r0
 have e2:r0.advance.others r0.advance.appending=[]:=by
  exact zj0 (by rw [hadv,e0];exact hn) (by rw [hadv,e0];exact hid) _
 rw [e2] at e1
 refine ⟨⟨by rw [e1],fun W=>?_⟩,by rw [e1];rfl,by rw [e1,hadv,e0]⟩
 rw [e1,hadv];clear e1 e2 hadv
 have hl:=zb2 r.recs
 obtain ⟨x0,x1,x2,x3,x4,hx5⟩:=five hnl;obtain ⟨y0,y1,y2,y3,y4,hy5⟩:=five hml;obtain ⟨id,n,ro,cm,vo,nx,mt,⟨tm,v,lg⟩,rs⟩:=r;dsimp only at hid hn hro ht hs hla hlen hc hrec hl hx5 hy5;subst hid hn hro hx5 hy5
 have hj0:r0.j=⟨tm,v,lg++[(tm,e)]⟩:=by rw [e0]
 have hc0:r0.commit=cm:=by rw [e0]
 have hn0:r0.n=1:=by rw [e0]
 have hh:∀ m:Nat,r0.holders m=1:=by
  intro m;rw [e0];rfl
 refine TriX.toY (zn3 cm vo x0 x1 x2 x3 x4 y0 y1 y2 y3 y4 (t:=tm) (v:=v) (lg:=lg) (D:=diskB sumN rs) (W:=W) (e:=e) (tsh:=zem hs) (h6:=zen hs) (ht:=ht) (hlast:=by rw [zbm];exact hla) (hlen:=hlen) (hb:=by omega) (hcm:=hc) (C:=advC r0) (h0:=fun m h=>by rw [zgg r0 m (by omega),hc0]) (h1:=fun m h h2=>zge r0 m (by omega) (by omega) (by rw [hj0];exact h2)) (h2:=fun m h h2=>zgf r0 m (by omega) (by omega) (by rw [hj0];exact h2) (by rw [hh,hn0];omega))) fun W'=>⟨⟨W',[],outs3 rfl (by nofun)⟩,?_⟩
 have hD:diskB sumN (rs++[.ent tm e])=diskB sumN rs++frameB sumN (Rec.ent tm e).bytes:=by rw [zbb];simp [diskB]
 subst e0;simp only [RB,repJ,hD];rfl
end Go.Proofs.YtpigpajgjdcagaaGreat
