/- Parts. -/
import Derived.Test.YtpigpajgjdcagaaGreatUq1
import Derived.Test.YtpigpajgjdcagaaGreatUr12
import Derived.Test.YtpigpajgjdcagaaGreatUi
import Derived.Test.YtpigpajgjdcagaaGreatUp2
set_option linter.unusedSimpArgs false
set_option linter.unusedVariables false
set_option maxRecDepth 100000
set_option maxHeartbeats 60000000
namespace Go.Proofs.YtpigpajgjdcagaaGreat
open Go.RowKit Eng
namespace Eng
theorem qbu {w0:World} {own:List Nat} {ρ:Nat→Nat × Nat} {w:World} {O:AO} {t z n:Nat} {l:List Value} {p0:Nat × Nat} (H:Sat w0 own ρ [.obj O,.obj (atO (.grow t z n l) p0)] w):ρ 1=p0∧Sat w0 own ρ [.obj O,.grow t z n l] w:=by
 have H1:=zgm [1,0] (m:=[.obj (atO (.grow t z n l) p0),.obj O]) rfl rfl ⟨.inr rfl,.inr rfl,trivial⟩ (zaj rfl) H
 obtain ⟨h1,h2,h3,H2⟩:=zmt H1
 have H3:=zgm [1,0] (m:=[.obj O,.grow t z n l]) rfl rfl ⟨.inr rfl,.inr rfl,trivial⟩ (zaj rfl) H2
 refine ⟨h1,H3.congr fun h hh=>?_⟩
 rcases h with _|_|h
 ·rfl
 ·rfl
 ·exact absurd hh (by simp)
theorem qcv {w0:World} {own:List Nat} {ρ:Nat→Nat × Nat} {w:World} {O O2:AO} {t z n t' z' k:Nat} {l r:List Value} (H:Sat w0 own ρ [.obj O,.grow t z n l,.grow t' z' k r,.obj O2] w):Sat w0 own ρ [.obj O,.obj (atO (.grow t z n l) (ρ 1)),.grow t' z' k r,.obj O2] w:=by
 have H1:=zgm [1,0,2,3] (m:=[.grow t z n l,.obj O,.grow t' z' k r,.obj O2]) rfl rfl ⟨.inr rfl,.inr rfl,.inr rfl,.inr rfl,trivial⟩ (zaj rfl) H
 have H2:=znu (b:=.grow t z n l) rfl trivial H1
 have H3:=zgm [1,0,2,3] (m:=[.obj O,.obj (atO (.grow t z n l) (ρ 1)),.grow t' z' k r,.obj O2]) rfl rfl ⟨.inr rfl,.inr rfl,.inr rfl,.inr rfl,trivial⟩ (zaj rfl) H2
 refine H3.congr fun h hh=>?_
 rcases h with _|_|_|_|h
 ·rfl
 ·rfl
 ·rfl
 ·rfl
 ·exact absurd hh (by simp)
theorem zgr {P:Program} {f:FuncId} {c0 c1 c2 c3 c4 c5 c6 c7 c8:Value} {k t' z':Nat} {O E:AO} {β:Type} {OB:β→AO} {G:β→List Value} {OP:β→AO}
 (h:TriY P f [.one (.ptr 0 0 0),.agg [.val c0,.val c1,.val c2,.val c3,.val c4,.val c5,.val c6,.val c7,.val c8]] [.obj O] (.one (.gsl 1 k)) fun y=>[.obj (OB y),.grow t' z' k (G y),.obj (OP y)]) :
 TriY P f [.one (.ptr 0 0 0),.agg [.val c0,.val c1,.val c2,.val c3,.val c4,.val c5,.val c6,.val c7,.val c8]] [.obj O,.obj E] (.one (.gsl 2 k)) fun y=>[.obj (OB y),.obj E,.grow t' z' k (G y),.obj (OP y)]:=by
 refine ⟨h.1,fun w0 own ρ w H ha=>?_⟩
 have hF:=zcs (mem:=[.obj O,.obj E]) [.same 0] h ⟨rfl,trivial⟩ rfl rfl (zaj rfl) rfl (zbc rfl) (fun v m hq=>by obtain ⟨rfl,y,rfl⟩:=hq;exact ⟨rfl,rfl,⟨.inl rfl,rfl,rfl,trivial⟩⟩) w0 own ρ w H
 refine hF.mono ?_
 rintro e w' ⟨v,m,ρ',rfl,⟨rfl,y,rfl⟩,hok,hle,hag,H'⟩
 exact ⟨_,_,ρ',rfl,⟨rfl,y,rfl⟩,hok,hle,hag,H'⟩
theorem zeq {P:Program} {f:FuncId} {c0 c1 c2 c3 c4 c5 c6 c7:Value} {n k t z t' z':Nat} {l:List Value} {O:AO} {p:Nat × Nat} {β:Type} {OB:β→AO} {G:β→List Value} {OP:β→AO}
 (h:TriY P f [.one (.ptr 0 0 0),.agg [.val c0,.val c1,.val c2,.val c3,.val c4,.val c5,.val c6,.val c7,.rsl 1 n]] [.obj O,.rs n l] (.one (.gsl 2 k)) fun y=>[.obj (OB y),.rs n l,.grow t' z' k (G y),.obj (OP y)]) :
 TriY P f [.one (.ptr 0 0 0),.agg [.val c0,.val c1,.val c2,.val c3,.val c4,.val c5,.val c6,.val c7,.val (.slice (gA p) n (gC p))]] [.obj O,.obj (atO (.grow t z n l) p)] (.one (.gsl 2 k)) fun y=>[.obj (OB y),.obj (atO (.grow t z n l) p),.grow t' z' k (G y),.obj (OP y)]:=by
 refine ⟨h.1,fun w0 own ρ w H ha=>?_⟩
 obtain ⟨h1,H1⟩:=qbu H
 have hF:=zcs (mem:=[.obj O,.grow t z n l]) [.same 0,.rd (.gsl 1 n)] h ⟨rfl,⟨rfl,rfl,rfl⟩,rfl,trivial⟩ rfl rfl (zaj rfl) rfl (zbc rfl) (fun v m hq=>by obtain ⟨rfl,y,rfl⟩:=hq;exact ⟨rfl,rfl,⟨.inl rfl,.inr rfl,rfl,rfl,trivial⟩⟩) w0 own ρ w H1
 have e:(mapVs (vwS [.same 0,.rd (.gsl 1 n)] 2) [.one (.ptr 0 0 0),.agg [.val c0,.val c1,.val c2,.val c3,.val c4,.val c5,.val c6,.val c7,.rsl 1 n]]).map (concV ρ)=[.one (.ptr 0 0 0),.agg [.val c0,.val c1,.val c2,.val c3,.val c4,.val c5,.val c6,.val c7,.val (.slice (gA p) n (gC p))]].map (concV ρ):=by
  rw [←h1,←zwp];rfl
 rw [←e];refine hF.mono ?_
 rintro e w' ⟨v,m,ρ',rfl,⟨rfl,y,rfl⟩,hok,hle,hag,H'⟩
 have H2:=qcv (t:=t) (z:=z) (n:=n) (l:=l) H'
 rw [show ρ' 1=p by rw [←hag 1 (by show 1<2;omega),h1]] at H2
 exact ⟨_,_,ρ',rfl,⟨rfl,y,rfl⟩,hok,hle,hag,H2⟩
theorem TriX.toY {P:Program} {f:FuncId} {args:List SV} {mem:List MB} {v:SV} {M:(Nat→Prop)→List MB} {β:Type} {N:β→List MB} (h:TriX P f args mem v M) (g:∀ W,∃ y,M W=N y):TriY P f args mem v N:=by
 refine h.mono ?_
 rintro u m ⟨rfl,W,rfl⟩
 obtain ⟨y,e⟩:=g W;exact ⟨rfl,y,e⟩
theorem TriY.toY {α β:Type} {P:Program} {f:FuncId} {args:List SV} {mem:List MB} {v:SV} {M:α→List MB} {N:β→List MB} (h:TriY P f args mem v M) (g:∀ x,∃ y,M x=N y):TriY P f args mem v N:=by
 refine h.mono ?_
 rintro u m ⟨rfl,W,rfl⟩
 obtain ⟨y,e⟩:=g W;exact ⟨rfl,y,e⟩
end Eng
end Go.Proofs.YtpigpajgjdcagaaGreat
namespace Go.Proofs.YtpigpajgjdcagaaGreat
open Go.RowKit Eng
set_option maxRecDepth 10000
def adR (r:RepD) (t:Int):List Rec:=if r.j.term<t then [.term t (-1)] else []
def adV (r:RepD) (t:Int):Int:=if r.j.term<t then -1 else r.j.vote
theorem zbb (a b:List Rec):diskB sumN (a++b)=diskB sumN a++diskB sumN b:=by simp [diskB]
theorem zxg (n:Int):(Rec.cut n).bytes.length≤110:=by
 have:=zco [3,n]
 rw [show [3,n].flatMap encI=(Rec.cut n).bytes by simp [Rec.bytes]] at this
 simp at this;omega
theorem zb2 (rs:List Rec):(diskB sumN rs).length≤130 * rs.length:=by
 induction rs with
 | nil=>simp [diskB]
 | cons x l ih =>
   have h:(frameB sumN x.bytes).length≤130:=zap _ (by cases x with|term a b=>exact zan a b|ent a e=>exact zcj (a,e)|cut n=>exact zxg n)
   simp only [diskB,List.flatMap_cons,List.length_append,List.length_cons] at *;omega
theorem znm (l:LogD):diskB sumN (l.map fun x=>.ent x.1 x.2)=entsD l:=by simp [diskB,entsD,List.flatMap_map]
section
variable {L f:Nat} {t:Int} {F:LogD} {d:Nat} {r:RepD}
theorem zqw (hr:RInv L t F d f r) (hne:f≠L) (ht:1≤t∧t≤1000000):(if r.j.term<t then { r.remember t (-1) with role:=1 } else r)={ r with role:=1,j:=⟨t,adV r t,r.j.log⟩,recs:=r.recs++adR r t }:=by
 unfold adV adR
 by_cases h:r.j.term<t
 ·rw [if_pos h,if_pos h,if_pos h,zbi (by omega) (by omega) (by omega) (by omega)]
 ·have e:r.j.term=t:=by have:=hr.tt;omega
  rw [if_neg h,if_neg h,if_neg h]
  have h2:=hr.role hne
  obtain ⟨a1,a2,a3,a4,a5,a6,a7,⟨b1,b2,b3⟩,a9⟩:=r;simp only at h2 e;subst h2 e;simp
theorem qa8 (hr:RInv L t F d f r):adV r t=-1∨adV r t=L:=by
 unfold adV
 split
 ·exact .inl rfl
 ·exact hr.vt (by have:=hr.tt;omega)
theorem zo6 (hL:L<3) (hf:f<3) (hne:f≠L) (ht:1≤t∧t≤1000000) (hF:LogOk t F) (hr:RInv L t F d f r) :
 r.handle ((MK.vote f).msg L t F)=({ r with role:=1,j:=⟨t,L,r.j.log⟩,recs:=r.recs++adR r t++[.term t L] },[(MK.voted f).msg L t F]):=by
 have hp:=zbj hL hf hne ht hF (k:=.vote f) rfl (r:=r) hr.id hr.n (by nofun) (by nofun)
 have e1:=zqw hr hne ht
 have hll:=zk7 hF (by omega) hr.pre
 rw [(zbl hp e1).1 rfl];unfold RepD.handleVote;rw [if_pos]
 ·rw [show ((MK.vote f).msg L t F).term=t from rfl,show ((MK.vote f).msg L t F).src=L from rfl,zbi (by omega) (by omega) (by simp) (fun _=>qa8 hr)]
  refine Prod.ext rfl ?_;simp only [MK.msg,RepD.msg,hr.id]
 ·refine ⟨rfl,qa8 hr,?_⟩
  simp only [MK.msg,RepD.lastTerm,RepD.len,zat]
  by_cases h:tAt r.j.log (r.j.log.length-1)<tAt F (F.length-1)
  ·exact .inl h
  ·have h2:tAt F (F.length-1)=tAt r.j.log (r.j.log.length-1):=by omega
   exact .inr ⟨h2,hll.2 h2⟩
theorem zwm (hL:L<3) (hf:f<3) (hne:f≠L) (ht:1≤t∧t≤1000000) (hF:LogOk t F) (hr:RInv L t F d f r) (hd4:d≤4096) {i:Nat} {c:Int} (hi:i≤F.length) (hc:0≤c∧c≤d) :
 r.handle ((MK.app f i c).msg L t F)=if i≤r.j.log.length then ({ r with role:=1,commit:=max r.commit (min c F.length),j:=⟨t,adV r t,F⟩,recs:=r.recs++adR r t++(F.drop r.j.log.length).map fun x=>.ent x.1 x.2 },[(MK.good f).msg L t F])
  else ({ r with role:=1,j:=⟨t,adV r t,r.j.log⟩,recs:=r.recs++adR r t },[(MK.bad f r.j.log.length).msg L t F]):=by
 have hp:=zbj hL hf hne ht hF (k:=.app f i c) rfl (r:=r) hr.id hr.n (fun i' c' h=>by cases h;omega) (by nofun)
 have e1:=zqw hr hne ht
 obtain ⟨r0,hr0⟩:∃ v9:RepD,v9={ r with role:=1,j:=⟨t,adV r t,r.j.log⟩,recs:=r.recs++adR r t }:=⟨_,rfl⟩
 rw [←hr0] at e1 ⊢
 have hpre:r0.j.log=r.j.log:=by rw [hr0]
 have ht0:r0.j.term=t:=by rw [hr0]
 have hro:r0.role=1:=by rw [hr0]
 have hid0:r0.id=f:=by rw [hr0];exact hr.id
 have hc0:r0.commit=r.commit:=by rw [hr0]
 have hle:=hr.pre.length_le
 have hr1:{ r0 with role:=1 }=r0:=by rw [←hro]
 have hst:∀ (q:RepD) (ix:Int) (b:Bool),q.id=f→q.j.term=t→q.stored L ix b=[⟨4,f,L,t,ix,0,0,b,[]⟩]:=fun q ix b h1 h2=>by simp [RepD.stored,RepD.msg,h1,h2]
 rw [(zbl hp e1).2.2.1 rfl];unfold RepD.handleAppend
 rw [if_neg (by simp only [MK.msg];omega),if_neg (by omega)]
 simp only [hr1]
 by_cases hil:i≤r.j.log.length
 ·have hsame:¬ (r0.len<((MK.app f i c).msg L t F).index∨0<((MK.app f i c).msg L t F).index∧r0.j.termAt (((MK.app f i c).msg L t F).index-1)≠((MK.app f i c).msg L t F).prev):=by
   simp only [RepD.len,MK.msg,hpre,zat]
   rintro (h|⟨h1,h2⟩)
   ·omega
   ·exact h2 (zh6 hr.pre (by omega))
  rw [if_neg hsame,if_pos hil]
  have hag:r0.agree ((MK.app f i c).msg L t F).index ((MK.app f i c).msg L t F).ents=r.j.log.length-i:=zjg (F:=F) (t:=t) (F.drop i) _ i r0 (by rw [hpre];exact hr.pre) rfl (by rw [hpre]) (by rw [hpre];exact hil) hF
  simp only [hag]
  have hix:(i:Int)+((r.j.log.length-i:Nat):Int)=r.j.log.length:=by omega
  have hend:(i:Int)+((F.drop i).length:Int)=F.length:=by simp;omega
  simp only [show ((MK.app f i c).msg L t F).ents=F.drop i from rfl,show ((MK.app f i c).msg L t F).index=i from rfl,show ((MK.app f i c).msg L t F).commit=c from rfl,show ((MK.app f i c).msg L t F).src=L from rfl,hix,hend]
  rw [if_neg (by rw [hc0];have:=hr.c0;omega)]
  have key:(if r.j.log.length-i<(F.drop i).length then r0.replace r.j.log.length ((F.drop i).drop (r.j.log.length-i)) else r0)={ r0 with j:={ r0.j with log:=F },recs:=r0.recs++(F.drop r.j.log.length).map fun x=>.ent x.1 x.2 }:=by
   by_cases hk:r.j.log.length-i<(F.drop i).length
   ·rw [if_pos hk]
    have hdd:(F.drop i).drop (r.j.log.length-i)=F.drop r.j.log.length:=by
     rw [List.drop_drop]
     congr 1
     omega
    have hcat:r0.j.log++F.drop r.j.log.length=F:=by
     rw [hpre]
     conv=>rhs;rw [←List.take_append_drop r.j.log.length F]
     rw [List.prefix_iff_eq_take.1 hr.pre];simp [Nat.min_eq_left hle]
    rw [hdd];unfold RepD.replace
    rw [if_neg (by rw [RepD.len,hpre];omega),zi3 (t:=t) (by omega),hcat]
    ·rw [hcat];exact hF
    ·intro x hx
     rw [ht0];exact (hF.low x (List.mem_of_mem_drop hx)).2.1
   ·rw [if_neg hk]
    have hfl:r.j.log.length=F.length:=by simp at hk;omega
    have hfe:r.j.log=F:=List.IsPrefix.eq_of_length hr.pre hfl
    rw [←hfe,List.drop_length,hr0];simp
  rw [key,hc0];refine Prod.ext ?_ ?_
  ·rw [hr0]
  ·dsimp only
   rw [hst _ _ _ (by exact hid0) (by exact ht0)]
   rfl
 ·rw [if_pos (.inl (by simp only [RepD.len,MK.msg,hpre];omega)),if_neg hil]
  have:min r0.len (((MK.app f i c).msg L t F).index-1)=(r.j.log.length:Int):=by
   simp only [RepD.len,MK.msg,hpre];omega
  rw [this,show ((MK.app f i c).msg L t F).src=L from rfl,hst _ _ _ hid0 ht0]
  rfl
theorem adDisk (D0:List Rec):diskB sumN (D0++adR r t)=diskB sumN D0++(if r.j.term<t then frameB sumN (Rec.term t (-1)).bytes else []):=by
 unfold adR;rw [zbb]
 split<;>simp [diskB]
end
theorem zbm (l:LogD) (i:Int):(atJ l i).1=tAt l i:=by
 unfold atJ tAt
 split<;>rfl
theorem zem {e:EnD} (h:shapeB e=true):ShapeOk e:=by
 have:=zlt e
 rw [zp5,h] at this;exact this
theorem zen {e:EnD} (h:shapeB e=true):∀ x∈e.list,I6 x:=by
 rw [←zp5] at h
 have h2:fitsP e 32 16 4 30=true:=h
 unfold fitsP at h2;dsimp only at h2
 have hF:∀ k tn cn rn vn:Int,0≤tn∧tn≤100→0≤cn∧cn≤100→0≤rn∧rn≤100→0≤vn∧vn≤100→(formP k tn cn rn vn).ok=true→1≤k∧k≤16∧-1≤(formP k tn cn rn vn).t0∧(formP k tn cn rn vn).t1≤100∧-1≤(formP k tn cn rn vn).c0∧(formP k tn cn rn vn).c1≤100∧-1≤(formP k tn cn rn vn).o0∧(formP k tn cn rn vn).o1≤100∧0≤(formP k tn cn rn vn).e0∧(formP k tn cn rn vn).e1≤1048576∧0≤(formP k tn cn rn vn).k0∧(formP k tn cn rn vn).k1≤1073741824∧0≤(formP k tn cn rn vn).n0∧(formP k tn cn rn vn).n1≤1073741824:=by
  intro k tn cn rn vn h1 h2 h3 h4 hok
  by_cases hk:1≤k∧k≤16
  ·have:k=1∨k=2∨k=3∨k=4∨k=5∨k=6∨k=7∨k=8∨k=9∨k=10∨k=11∨k=12∨k=13∨k=14∨k=15∨k=16:=by omega
   rcases this with rfl|rfl|rfl|rfl|rfl|rfl|rfl|rfl|rfl|rfl|rfl|rfl|rfl|rfl|rfl|rfl<;>(simp [formP];try omega)
  ·unfold formP at hok
   rw [if_neg (by omega),if_neg (by omega),if_neg (by omega),if_neg (by omega),if_neg (by omega),if_neg (by omega),if_neg (by omega),if_neg (by omega),if_neg (by omega),if_neg (by omega),if_neg (by omega),if_neg (by omega),if_neg (by omega),if_neg (by omega),if_neg (by omega),if_neg (by omega)] at hok
   cases hok
 split at h2
 ·cases h2
 ·rename_i hn
  have hok:(formP e.kind 32 16 4 30).ok=true:=by
   cases hb:(formP e.kind 32 16 4 30).ok with
   | true=>rfl
   | false=>exact absurd (.inl hb) hn
  have:=hF e.kind 32 16 4 30 (by omega) (by omega) (by omega) (by omega) hok
  simp only [Bool.and_eq_true,zbd,decide_eq_true_eq] at h2;intro x hx;simp only [EnD.list,List.mem_cons,List.not_mem_nil,or_false] at hx;unfold I6
  rcases hx with rfl|rfl|rfl|rfl|rfl|rfl|rfl|rfl|rfl<;>omega
theorem zfc {t:Int} {F:LogD} (hF:LogOk t F) (ht:t≤1000000) (i:Nat):EntsOk t (F.drop i) :=
 ⟨fun x hx=>zem (hF.low x (List.mem_of_mem_drop hx)).2.2,fun x hx=>zen (hF.low x (List.mem_of_mem_drop hx)).2.2,fun x hx=>by have:=hF.low x (List.mem_of_mem_drop hx);omega⟩
theorem outs1 (m:MsgD):Outs [m] [(0,0)]:=⟨rfl,fun i m' p h1 h2 _=>by
 rcases i with _|i
 ·simpa using h2.symm
 ·simp at h1⟩
section
variable {L f:Nat} {t:Int} {F:LogD} {d:Nat} {r:RepD}
theorem zzt (hL:L<3) (hf:f<3) (hne:f≠L) (ht:1≤t∧t≤1000000) (hF:LogOk t F) (hr:RInv L t F d f r) (hrec:r.recs.length≤5000) (hFl:F.length≤2000):HOk r ((MK.vote f).msg L t F):=by
 intro W p hp
 obtain rfl:=hp (by simp [MK.msg])
 rw [zo6 hL hf hne ht hF hr];change TriY _ _ [.one (.ptr 0 0 0),.agg [.val (iv 1),.val (iv L),.val (iv f),.val (iv t),.val (iv F.length),.val (iv (tAt F (F.length-1))),.val (iv 0),.val (.bool false),.val (.slice none 0 0)]] _ _ _
 have hd:=zb2 r.recs
 have hll:=zk7 hF (by omega) hr.pre
 have hle:=hr.pre.length_le
 have htop:=zc2 hF (by omega) (F.length-1)
 have hgood:(atJ r.j.log ((r.j.log.length:Int)-1)).1<tAt F (F.length-1)∨tAt F (F.length-1)=(atJ r.j.log ((r.j.log.length:Int)-1)).1∧(r.j.log.length:Int)≤F.length:=by
  rw [zbm]
  by_cases h:tAt r.j.log (r.j.log.length-1)<tAt F (F.length-1)
  ·exact .inl h
  ·have h2:tAt F (F.length-1)=tAt r.j.log (r.j.log.length-1):=by omega
   exact .inr ⟨h2,hll.2 h2⟩
 have hid:=hr.id
 have hn:=hr.n
 have hro:=hr.role hne
 have ht0:=hr.t0
 have htt:=hr.tt
 have hvt:=hr.vt
 obtain ⟨id,n,ro,cm,vo,nx,mt,⟨tm,v,lg⟩,rs⟩:=r;dsimp only at hid hn hro ht0 htt hvt hgood hd hrec hle;subst hid hn hro
 by_cases h:tm<t
 ·have hD:diskB sumN (rs++adR ⟨f,3,1,cm,vo,nx,mt,⟨tm,v,lg⟩,rs⟩ t++[.term t L])=(diskB sumN rs++frameB sumN (Rec.term t (-1)).bytes)++frameB sumN (Rec.term t L).bytes:=by
   rw [zbb,adDisk,if_pos h];simp [diskB]
  refine zgr (TriX.toY (zn5 (id:=(f:Int)) (n:=3) (t:=tm) (v:=v) (lg:=lg) (D:=diskB sumN rs) (W:=W) (hT:=⟨ht0,h⟩) (a1:=rfl) (a2:=by omega) (a3:=by omega) (a4:=by omega) (a5:=by omega) (a6:=by omega) (a7:=by omega) (hn5:=by omega) (hlb:=by omega) (h4:=hgood) (hb:=by omega) ..) fun W'=>⟨⟨W',[(0,0)],outs1 _⟩,?_⟩)
  simp only [RB,repJ,hD];rfl
 ·have he:tm=t:=by omega
  subst he
  have hD:diskB sumN (rs++adR ⟨f,3,1,cm,vo,nx,mt,⟨tm,v,lg⟩,rs⟩ tm++[.term tm L])=diskB sumN rs++frameB sumN (Rec.term tm L).bytes:=by
   rw [zbb,adDisk,if_neg h];simp [diskB]
  refine zgr (TriX.toY (zn6 (id:=(f:Int)) (n:=3) (t:=tm) (v:=v) (lg:=lg) (D:=diskB sumN rs) (W:=W) (a1:=rfl) (a2:=by omega) (a3:=by omega) (a4:=by omega) (a5:=by omega) (a6:=by omega) (a7:=by omega) (hn5:=by omega) (hlb:=by omega) (h3:=hvt rfl) (h4:=hgood) (hb:=by omega) ..) fun W'=>⟨⟨W',[(0,0)],outs1 _⟩,?_⟩)
  simp only [RB,repJ,hD];rfl
theorem qco (ht:1≤t) (hF:LogOk t F) {i:Nat}:∀ x∈F.drop i,max 1 (tAt F ((i:Int)-1))≤x.1∧x.1≤t:=by
 intro x hx
 have hl:=hF.low x (List.mem_of_mem_drop hx)
 obtain ⟨j,hj,e⟩:=List.getElem_of_mem hx
 have hj2:i+j<F.length:=by simp at hj;omega
 have e2:tAt F ((i+j:Nat):Int)=x.1:=by
  unfold tAt
  rw [if_pos (by omega),←e,Int.toNat_natCast]
  simp [List.getD_eq_getElem?_getD,hj2]
 have:=zkp hF (by omega) (i:=(i:Int)-1) (j:=((i+j:Nat):Int)) (by omega) (by omega)
 omega
theorem qcg (hL:L<3) (hf:f<3) (hne:f≠L) (ht:1≤t∧t≤1000000) (hF:LogOk t F) (hr:RInv L t F d f r) (hd4:d≤4096) {i:Nat} {c:Int} (hi:i≤F.length) (hc:0≤c∧c≤d) (hrec:r.recs.length≤5000) (hFl:F.length≤2000):HOk r ((MK.app f i c).msg L t F):=by
 intro W p _;rw [zwm hL hf hne ht hF hr hd4 hi hc];change TriY _ _ [.one (.ptr 0 0 0),.agg [.val (iv 3),.val (iv L),.val (iv f),.val (iv t),.val (iv i),.val (iv (tAt F (i-1))),.val (iv c),.val (.bool false),.val (.slice (gA p) (F.drop i).length (gC p))]] [RB r W,.obj (atO (.grow _ 10 (F.drop i).length (logV (F.drop i))) p)] _ _
 have hd:=zb2 r.recs
 have hle:=hr.pre.length_le
 have hprev:=zc2 hF (by omega) ((i:Int)-1)
 have ha8:tAt F ((i:Int)-1)=0↔(i:Int)=0:=by
  constructor
  ·intro h
   by_cases h0:0<i
   ·have:=zot hF (i:=(i:Int)-1) (by omega) (by omega)
    omega
   ·omega
  ·intro h
   exact zdm (by omega)
 have h11:=qco (i:=i) ht.1 hF
 have hid:=hr.id
 have hn:=hr.n
 have hro:=hr.role hne
 have ht0:=hr.t0
 have htt:=hr.tt
 have hcc:=hr.c0
 have hpr:=hr.pre
 obtain ⟨id,n,ro,cm,vo,nx,mt,⟨tm,v,lg⟩,rs⟩:=r;dsimp only at hid hn hro ht0 htt hd hrec hle hcc hpr;subst hid hn hro;dsimp only
 have hpq:i≤lg.length→0<i→(atJ lg ((i:Int)-1)).1=tAt F ((i:Int)-1):=fun h1 h2=>by
  rw [zbm]
  exact zh6 hpr (by omega)
 by_cases hil:i≤lg.length
 ·rw [if_pos hil]
  have hen:=zfc hF ht.2 lg.length
  by_cases h:tm<t
  ·have hD:diskB sumN (rs++adR ⟨f,3,1,cm,vo,nx,mt,⟨tm,v,lg⟩,rs⟩ t++(F.drop lg.length).map fun x=>.ent x.1 x.2)=(diskB sumN rs++frameB sumN (Rec.term t (-1)).bytes)++entsD (F.drop lg.length):=by
    rw [zbb,adDisk,if_pos h,znm]
   have hV:adV ⟨f,3,1,cm,vo,nx,mt,⟨tm,v,lg⟩,rs⟩ t=-1:=if_pos h
   rw [hV]
   by_cases hfl:lg.length<F.length
   ·refine zeq (TriX.toY (zod (id:=(f:Int)) (n:=3) (cm:=cm) (t:=tm) (v:=v) (lg:=lg) (D:=diskB sumN rs) (T:=t) (hT:=⟨ht0,h⟩) (i0:=i) (F:=F) (c:=c) (src:=L) (to:=f) (prev:=tAt F (i-1)) (ok:=false) (W:=W) (a1:=rfl) (a2:=by omega) (a3:=by omega) (a4:=by omega) (a6:=hprev) (a7:=by omega) (a8:=ha8) (h10:=(zfc hF ht.2 i).sh) (h11:=h11) (hs:=hF.sorted) (hlb:=hF.len) (hiF:=hi) (hpre:=hpr) (hcm:=by omega) (hpos:=fun x hx=>(hF.low x hx).1) (hb:=by omega) (hi:=hil) (hp:=hpq hil) (hne:=hfl) (hen:=hen) ..) fun W'=>⟨⟨W',[(0,0)],outs1 _⟩,?_⟩)
    simp only [RB,repJ,hD];rfl
   ·refine zeq (TriX.toY (zob (id:=(f:Int)) (n:=3) (cm:=cm) (t:=tm) (v:=v) (lg:=lg) (D:=diskB sumN rs) (T:=t) (hT:=⟨ht0,h⟩) (i0:=i) (F:=F) (c:=c) (src:=L) (to:=f) (prev:=tAt F (i-1)) (ok:=false) (W:=W) (a1:=rfl) (a2:=by omega) (a3:=by omega) (a4:=by omega) (a6:=hprev) (a7:=by omega) (a8:=ha8) (h10:=(zfc hF ht.2 i).sh) (h11:=h11) (hs:=hF.sorted) (hlb:=hF.len) (hiF:=hi) (hpre:=hpr) (hcm:=by omega) (hpos:=fun x hx=>(hF.low x hx).1) (hb:=by omega) (hi:=hil) (hp:=hpq hil) (heq:=by omega) ..) fun W'=>⟨⟨W',[(0,0)],outs1 _⟩,?_⟩)
    have hnil:F.drop lg.length=[]:=List.drop_eq_nil_of_le (by omega)
    rw [hnil] at hD ⊢
    rw [show entsD []=[] from rfl,List.append_nil] at hD
    simp only [RB,repJ,hD];rfl
  ·have he:tm=t:=by omega
   subst he
   have hD:diskB sumN (rs++adR ⟨f,3,1,cm,vo,nx,mt,⟨tm,v,lg⟩,rs⟩ tm++(F.drop lg.length).map fun x=>.ent x.1 x.2)=diskB sumN rs++entsD (F.drop lg.length):=by
    rw [zbb,adDisk,if_neg h,znm,List.append_nil]
   have hV:adV ⟨f,3,1,cm,vo,nx,mt,⟨tm,v,lg⟩,rs⟩ tm=v:=if_neg h
   rw [hV]
   by_cases hfl:lg.length<F.length
   ·refine zeq (TriX.toY (zoe (id:=(f:Int)) (n:=3) (cm:=cm) (t:=tm) (v:=v) (lg:=lg) (D:=diskB sumN rs) (i0:=i) (F:=F) (c:=c) (src:=L) (to:=f) (prev:=tAt F (i-1)) (ok:=false) (W:=W) (a1:=rfl) (a2:=by omega) (a3:=by omega) (a4:=by omega) (a6:=hprev) (a7:=by omega) (a8:=ha8) (h10:=(zfc hF ht.2 i).sh) (h11:=h11) (hs:=hF.sorted) (hlb:=hF.len) (hiF:=hi) (hpre:=hpr) (hcm:=by omega) (hpos:=fun x hx=>(hF.low x hx).1) (hb:=by omega) (hi:=hil) (hp:=hpq hil) (hne:=hfl) (hen:=hen) ..) fun W'=>⟨⟨W',[(0,0)],outs1 _⟩,?_⟩)
    simp only [RB,repJ,hD];rfl
   ·refine zeq (TriX.toY (zoc (id:=(f:Int)) (n:=3) (cm:=cm) (t:=tm) (v:=v) (lg:=lg) (D:=diskB sumN rs) (i0:=i) (F:=F) (c:=c) (src:=L) (to:=f) (prev:=tAt F (i-1)) (ok:=false) (W:=W) (a1:=rfl) (a2:=by omega) (a3:=by omega) (a4:=by omega) (a6:=hprev) (a7:=by omega) (a8:=ha8) (h10:=(zfc hF ht.2 i).sh) (h11:=h11) (hs:=hF.sorted) (hlb:=hF.len) (hiF:=hi) (hpre:=hpr) (hcm:=by omega) (hpos:=fun x hx=>(hF.low x hx).1) (hb:=by omega) (hi:=hil) (hp:=hpq hil) (heq:=by omega) ..) fun W'=>⟨⟨W',[(0,0)],outs1 _⟩,?_⟩)
    have hnil:F.drop lg.length=[]:=List.drop_eq_nil_of_le (by omega)
    rw [hnil] at hD ⊢
    rw [show entsD []=[] from rfl,List.append_nil] at hD
    simp only [RB,repJ,hD];rfl
 ·rw [if_neg hil]
  by_cases h:tm<t
  ·have hD:diskB sumN (rs++adR ⟨f,3,1,cm,vo,nx,mt,⟨tm,v,lg⟩,rs⟩ t)=diskB sumN rs++frameB sumN (Rec.term t (-1)).bytes:=by
    rw [adDisk,if_pos h]
   have hV:adV ⟨f,3,1,cm,vo,nx,mt,⟨tm,v,lg⟩,rs⟩ t=-1:=if_pos h
   rw [hV]
   refine zeq (TriX.toY (zn9 (id:=(f:Int)) (n:=3) (cm:=cm) (t:=tm) (v:=v) (lg:=lg) (D:=diskB sumN rs) (T:=t) (hT:=⟨ht0,h⟩) (i0:=i) (F:=F) (c:=c) (src:=L) (to:=f) (prev:=tAt F (i-1)) (ok:=false) (W:=W) (a1:=rfl) (a2:=by omega) (a3:=by omega) (a4:=by omega) (a6:=hprev) (a7:=by omega) (a8:=ha8) (h10:=(zfc hF ht.2 i).sh) (h11:=h11) (hs:=hF.sorted) (hlb:=hF.len) (hiF:=hi) (hpre:=hpr) (hcm:=by omega) (hpos:=fun x hx=>(hF.low x hx).1) (hb:=by omega) (hi:=by omega) ..) fun W'=>⟨⟨W',[(0,0)],outs1 _⟩,?_⟩)
   simp only [RB,repJ,hD];rfl
  ·have he:tm=t:=by omega
   subst he
   have hD:diskB sumN (rs++adR ⟨f,3,1,cm,vo,nx,mt,⟨tm,v,lg⟩,rs⟩ tm)=diskB sumN rs:=by
    rw [adDisk,if_neg h,List.append_nil]
   have hV:adV ⟨f,3,1,cm,vo,nx,mt,⟨tm,v,lg⟩,rs⟩ tm=v:=if_neg h
   rw [hV]
   refine zeq (TriX.toY (zoa (id:=(f:Int)) (n:=3) (cm:=cm) (t:=tm) (v:=v) (lg:=lg) (D:=diskB sumN rs) (i0:=i) (F:=F) (c:=c) (src:=L) (to:=f) (prev:=tAt F (i-1)) (ok:=false) (W:=W) (a1:=rfl) (a2:=by omega) (a3:=by omega) (a4:=by omega) (a6:=hprev) (a7:=by omega) (a8:=ha8) (h10:=(zfc hF ht.2 i).sh) (h11:=h11) (hs:=hF.sorted) (hlb:=hF.len) (hiF:=hi) (hpre:=hpr) (hcm:=by omega) (hpos:=fun x hx=>(hF.low x hx).1) (hb:=by omega) (hi:=by omega) ..) fun W'=>⟨⟨W',[(0,0)],outs1 _⟩,?_⟩)
   simp only [RB,repJ,hD];rfl
end
end Go.Proofs.YtpigpajgjdcagaaGreat
