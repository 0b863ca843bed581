/- Parts. -/
import Derived.Test.YtpigpajgjdcagaaGreatUf
set_option linter.unusedSimpArgs false
set_option linter.unusedVariables false
set_option maxRecDepth 100000
set_option maxHeartbeats 60000000
namespace Go.Proofs.YtpigpajgjdcagaaGreat
open Go.RowKit
def zig (n:Int):Nat:=if n<0 then (-2 * n-1).toNat else (2 * n).toNat
def zag (u:Nat):Int:=if u % 2=1 then -((u / 2:Nat):Int)-1 else ((u / 2:Nat):Int)
theorem qbb (n:Int):zag (zig n)=n:=by
 unfold zag zig
 split<;>split<;>omega
theorem qal {n:Int} (h:-9223372036854775808≤n∧n≤9223372036854775807):zig n<18446744073709551616:=by
 unfold zig
 split<;>omega
def encU:Nat→Nat→List UInt8
 | 0,u=>[UInt8.ofNat u]
 | f+1,u=>if u<128 then [UInt8.ofNat u] else UInt8.ofNat (u % 128+128)::encU f (u / 128)
def encI (n:Int):List UInt8:=encU 9 (zig n)
theorem zf6:∀ (f u:Nat),1≤(encU f u).length∧(encU f u).length≤f+1
 | 0,u=>by simp [encU]
 | f + 1, u => by
   rw [encU]
   split
   ·simp
   ·have:=zf6 f (u / 128)
    simp;omega
def decU:Nat→List UInt8→Nat→Nat→Int × Nat × Nat
 | 0,_,_,_=>(18,0,0)
 | f + 1, l, k, acc => match l with
   | []=>(17,0,0)
   | x :: r => if 128 ≤ x.toNat then decU f r (k + 1) (acc + (x.toNat % 128) * 128 ^ k)
     else if (0<k∧x.toNat=0)∨(k=9∧1<x.toNat) then (18,0,0) else (0,acc+(x.toNat % 128) * 128 ^ k,k+1)
theorem zxf:∀ (f k acc u:Nat) (r:List UInt8),k+f=9→u<2 ^ (64-7 * k)→(0<k→0<u)→decU (f+1) (encU f u++r) k acc=(0,acc+u * 128 ^ k,k+(encU f u).length)
 | 0, k, acc, u, r, hk, hu, hpos => by
   obtain rfl:k=9:=by omega
   have hu2:u<2:=by simpa using hu
   have hu1:u=1:=by have:=hpos (by omega);omega
   subst hu1;simp [encU,decU]
 | f + 1, k, acc, u, r, hk, hu, hpos => by
   rw [encU]
   by_cases h:u<128
   ·rw [if_pos h]
    have hx:(UInt8.ofNat u).toNat=u:=by simp;omega
    rw [List.cons_append,decU];simp only [hx]
    rw [if_neg (by omega),if_neg (by rintro (⟨h1,h2⟩|⟨h1,_⟩);exact absurd (hpos h1) (by omega);omega),Nat.mod_eq_of_lt h]
    simp
   ·rw [if_neg h]
    have hx:(UInt8.ofNat (u % 128+128)).toNat=u % 128+128:=by simp;omega
    rw [List.cons_append,decU];simp only [hx]
    have hd:u / 128<2 ^ (64-7 * (k+1)):=by
     have e:2 ^ (64-7 * k)=2 ^ (64-7 * (k+1)) * 128:=by rw [show 64-7 * k=(64-7 * (k+1))+7 by omega,Nat.pow_add]
     rw [e] at hu
     exact Nat.div_lt_of_lt_mul (by rw [Nat.mul_comm];exact hu)
    rw [if_pos (by omega),zxf f (k+1) _ (u / 128) r (by omega) hd (fun _=>by omega)]
    have e1:(u % 128+128) % 128=u % 128:=by omega
    have e2:u % 128 * 128 ^ k+u / 128 * 128 ^ (k+1)=u * 128 ^ k:=by
     rw [Nat.pow_succ,←Nat.mul_assoc,Nat.mul_right_comm,←Nat.add_mul]
     congr 1
     omega
    rw [e1,Nat.add_assoc,e2];simp;omega
theorem qac {n:Int} (h:-9223372036854775808≤n∧n≤9223372036854775807) (r:List UInt8):decU 10 (encI n++r) 0 0=(0,zig n,(encI n).length):=by
 have:=zxf 9 0 0 (zig n) r rfl (by simpa using qal h) (by omega)
 simpa [encI] using this
def takeI (l:List UInt8):Int × Int × Nat:=if (decU 10 l 0 0).1=0 then (0,zag (decU 10 l 0 0).2.1,(decU 10 l 0 0).2.2) else ((decU 10 l 0 0).1,0,0)
theorem zmd {n:Int} (h:-9223372036854775808≤n∧n≤9223372036854775807) (r:List UInt8):takeI (encI n++r)=(0,n,(encI n).length):=by
 rw [takeI,qac h];simp [qbb]
def le8:Nat→Nat→List UInt8
 | 0,_=>[]
 | f+1,s=>UInt8.ofNat (s % 256)::le8 f (s / 256)
theorem zgt:∀ f s,(le8 f s).length=f
 | 0,_=>rfl
 | f+1,s=>by simp [le8,zgt f]
section
variable (S:List UInt8→Nat)
def frameB (p:List UInt8):List UInt8:=encI p.length++le8 8 (S p)++p
theorem zsf (p:List UInt8):1≤(frameB S p).length:=by
 have:=(zf6 9 (zig p.length)).1
 simp [frameB,encI];omega
end
def EnD.list (e:EnD):List Int:=[e.kind,e.tick,e.tenant,e.cell,e.other,e.epoch,e.lo,e.hi,e.n]
def EnD.of (l:List Int):EnD:=⟨l.getD 0 0,l.getD 1 0,l.getD 2 0,l.getD 3 0,l.getD 4 0,l.getD 5 0,l.getD 6 0,l.getD 7 0,l.getD 8 0⟩
def I6 (n:Int):Prop:=-9223372036854775808≤n∧n≤9223372036854775807
def shapeB (e:EnD):Bool:=rightD e 32 16 4 30
def entB (e:EnD):List UInt8:=e.list.flatMap encI
structure JSt where
 term:Int
 vote:Int
 log:List (Int × EnD)
inductive Rec where
 | term (t v:Int)
 | ent (t:Int) (e:EnD)
 | cut (n:Int)
def Rec.bytes:Rec→List UInt8
 | .term t v=>encI 1++(encI t++encI v)
 | .ent t e=>encI 2++(encI t++entB e)
 | .cut n=>encI 3++encI n
def JSt.new:JSt:=⟨0,-1,[]⟩
def JSt.termAt (j:JSt) (i:Int):Int:=if 0≤i∧i<j.log.length then (j.log.getD i.toNat (0,EnD.of [])).1 else 0
def JSt.setTerm (j:JSt) (t v:Int):Int × JSt :=
 if t<0∨1073741824<t∨v < -1∨5≤v then (1,j) else if t<j.term∨t=j.term∧j.vote≠-1∧j.vote≠v then (20,j) else (0,{ j with term:=t,vote:=v })
def JSt.add (j:JSt) (t:Int) (e:EnD):Int × JSt :=
 if t<1∨1073741824<t∨shapeB e=false then (1,j) else if j.term<t∨t<j.termAt (j.log.length-1) then (20,j)
 else if 4096≤j.log.length then (2,j) else (0,{ j with log:=j.log++[(t,e)] })
def JSt.cut (j:JSt) (n:Int):Int × JSt:=if n<0∨j.log.length<n then (1,j) else (0,{ j with log:=j.log.take n.toNat })
def JSt.app (j:JSt):Rec→Int × JSt
 | .term t v=>j.setTerm t v
 | .ent t e=>j.add t e
 | .cut n=>j.cut n
def Rec.Ok:Rec→Prop
 | .term t v=>I6 t∧I6 v
 | .ent t e=>I6 t∧(∀ n∈e.list,I6 n)∧shapeB e=true
 | .cut n=>I6 n
def JSt.apps:JSt→List Rec→Option JSt
 | j,[]=>some j
 | j,r::rs=>if (j.app r).1=0 then (j.app r).2.apps rs else none
theorem znv:∀ (rs:List Rec) (j k:JSt) (r:Rec),j.apps rs=some k→(k.app r).1=0→j.apps (rs++[r])=some (k.app r).2
 | [], j, k, r, h, hr => by
   simp only [JSt.apps,Option.some.injEq] at h;subst h;simp [JSt.apps,hr]
 | x :: rs, j, k, r, h, hr => by
   rw [JSt.apps] at h
   split at h
   ·rename_i hx
    rw [List.cons_append,JSt.apps,if_pos hx];exact znv rs _ k r h hr
   ·cases h
section
variable (S:List UInt8→Nat)
def diskB (rs:List Rec):List UInt8:=rs.flatMap fun r=>frameB S r.bytes
end
structure MsgD where
 kind:Int
 src:Int
 to:Int
 term:Int
 index:Int
 prev:Int
 commit:Int
 ok:Bool
 ents:List (Int × EnD)
structure RepD where
 id:Int
 n:Int
 role:Int
 commit:Int
 votes:Int
 next:List Int
 mtch:List Int
 j:JSt
 recs:List Rec
namespace RepD
def new (id n:Int):RepD:=⟨id,n,1,0,0,[0,0,0,0,0],[0,0,0,0,0],JSt.new,[]⟩
def len (r:RepD):Int:=r.j.log.length
def lastTerm (r:RepD):Int:=r.j.termAt (r.len-1)
def put (r:RepD) (x:Rec):RepD:=if (r.j.app x).1=0 then { r with j:=(r.j.app x).2,recs:=r.recs++[x] } else r
def remember (r:RepD) (t v:Int):RepD:=r.put (.term t v)
def msg (r:RepD) (kind to:Int):MsgD:=⟨kind,r.id,to,r.j.term,0,0,0,false,[]⟩
def stored (r:RepD) (to index:Int) (ok:Bool):List MsgD:=[{ r.msg 4 to with index:=index,ok:=ok }]
def nx (r:RepD) (to:Int):Int:=r.next.getD to.toNat 0
def mt (r:RepD) (to:Int):Int:=r.mtch.getD to.toNat 0
def appending (r:RepD) (to:Int):MsgD:={ r.msg 3 to with index:=r.nx to,prev:=r.j.termAt (r.nx to-1),commit:=r.commit,ents:=r.j.log.drop (r.nx to).toNat }
def others (r:RepD) (f:Int→MsgD):List MsgD:=((List.range r.n.toNat).filter fun (i:Nat)=>decide (((i:Nat):Int)≠r.id)).map fun (i:Nat)=>f (i:Int)
def setAll (l:List Int) (n:Nat) (v:Int):List Int:=List.replicate (min n l.length) v++l.drop n
def lead (r:RepD):RepD:={ r with role:=3,next:=setAll r.next r.n.toNat r.len,mtch:=setAll r.mtch r.n.toNat 0 }
def holders (r:RepD) (m:Int):Int:=1+(((List.range r.n.toNat).filter fun (i:Nat)=>decide (((i:Nat):Int)≠r.id) && decide (m≤r.mt i)).length:Int)
def advGo (r:RepD):Nat→RepD
 | 0=>r
 | m+1=>if ((m:Int)+1)≤r.commit then r else if r.j.termAt m≠r.j.term then advGo r m else if r.n<2 * r.holders (m+1) then { r with commit:=m+1 } else advGo r m
def advance (r:RepD):RepD:=r.advGo r.j.log.length
def campaign (r:RepD):RepD × List MsgD :=
 if 1073741824≤r.j.term then (r,[]) else
 let r1:={ r.remember (r.j.term+1) r.id with role:=2,votes:=2 ^ r.id.toNat }
 if r.n=1 then (r1.lead,[]) else (r1,r1.others fun to=>{ r1.msg 1 to with index:=r1.len,prev:=r1.lastTerm })
def propose (r:RepD) (e:EnD):RepD × List MsgD × Int :=
 if r.role≠3 then (r,[],4) else if (r.j.add r.j.term e).1≠0 then (r,[],(r.j.add r.j.term e).1) else
 let r1:=(r.put (.ent r.j.term e)).advance
 (r1,r1.others r1.appending,0)
def entsOk (top:Int):Int→List (Int × EnD)→Bool
 | _,[]=>true
 | low,(t,e)::l=>shapeB e && decide (low≤t) && decide (t≤top) && entsOk top t l
def proper (r:RepD) (m:MsgD):Bool :=
 decide (m.to=r.id) && decide (m.src≠r.id) && decide (0≤m.src) && decide (m.src<r.n) && decide (1≤m.term) && decide (m.term≤1073741824) &&
 decide (0≤m.index) && decide (m.index≤4096) && decide (0≤m.prev) && decide (m.prev≤m.term) && decide (0≤m.commit) && decide (m.commit≤4096) &&
 (decide (m.kind=1) || decide (m.kind=2) || decide (m.kind=4) || (decide (m.kind=3) && (decide (m.prev=0) == decide (m.index=0)) && decide (m.index+m.ents.length≤4096) && entsOk m.term (max 1 m.prev) m.ents))
def handleVote (r:RepD) (m:MsgD):RepD × List MsgD :=
 if m.term=r.j.term∧(r.j.vote=-1∨r.j.vote=m.src)∧(r.lastTerm<m.prev∨m.prev=r.lastTerm∧r.len≤m.index) then (r.remember m.term m.src,[{ r.msg 2 m.src with ok:=true }])
 else (r,[r.msg 2 m.src])
def bitsTo (v:Int) (n:Nat):Int:=(((List.range n).filter fun (i:Nat)=>v.toNat.testBit i).length:Int)
def handleVoted (r:RepD) (m:MsgD):RepD × List MsgD :=
 if r.role≠2∨m.term≠r.j.term∨m.ok=false then (r,[]) else
 let r1:={ r with votes:=((r.votes.toNat ||| 2 ^ m.src.toNat:Nat):Int) }
 if 2 * bitsTo r1.votes r1.n.toNat≤r1.n then (r1,[]) else (r1.lead,r1.lead.others r1.lead.appending)
def agree (r:RepD):Int→List (Int × EnD)→Nat
 | _,[]=>0
 | i,(t,_)::l=>if r.j.termAt i=t then agree r (i+1) l+1 else 0
def replace (r:RepD) (p:Int) (l:List (Int × EnD)):RepD:=l.foldl (fun r x=>r.put (.ent x.1 x.2)) (if p<r.len then r.put (.cut p) else r)
def handleAppend (r:RepD) (m:MsgD):RepD × List MsgD :=
 if m.term<r.j.term then (r,r.stored m.src 0 false) else if r.role=3 then (r,[]) else
 let r0:={ r with role:=1 }
 if r0.len<m.index∨0<m.index∧r0.j.termAt (m.index-1)≠m.prev then (r0,r0.stored m.src (min r0.len (m.index-1)) false) else
 let k:=r0.agree m.index m.ents
 if k<m.ents.length∧m.index+k<r0.commit then (r0,[]) else
 let r1:=if k<m.ents.length then r0.replace (m.index+k) (m.ents.drop k) else r0
 let r2:={ r1 with commit:=max r1.commit (min m.commit (m.index+m.ents.length)) }
 (r2,r2.stored m.src (m.index+m.ents.length) true)
def handleStored (r:RepD) (m:MsgD):RepD × List MsgD :=
 if r.role≠3∨m.term≠r.j.term then (r,[]) else
 if m.ok=false then
  let r1:={ r with next:=r.next.set m.src.toNat (max 0 (min (r.nx m.src-1) m.index)) }
  (r1,[r1.appending m.src])
 else if m.index≤r.len then
  let v:=max (r.mt m.src) m.index
  ({ r with mtch:=r.mtch.set m.src.toNat v,next:=r.next.set m.src.toNat v:RepD }.advance,[])
 else (r,[])
def handle (r:RepD) (m:MsgD):RepD × List MsgD :=
 if r.proper m=false then (r,[]) else
 let r0:=if r.j.term<m.term then { r.remember m.term (-1) with role:=1 } else r
 if m.kind=1 then r0.handleVote m else if m.kind=2 then r0.handleVoted m else if m.kind=3 then r0.handleAppend m else if m.kind=4 then r0.handleStored m else (r0,[])
def crash (r:RepD):RepD:={ r with role:=1,commit:=0 }
def Disk (r:RepD):Prop:=JSt.new.apps r.recs=some r.j
theorem put_disk {r:RepD} (h:r.Disk) (x:Rec):(r.put x).Disk:=by
 unfold put
 split
 ·rename_i h0
  exact znv r.recs JSt.new r.j x h h0
 ·exact h
end RepD
structure QuoD where
 reps:List RepD
 net:List MsgD
 done:List EnD
namespace QuoD
def new (n:Nat):QuoD:=⟨(List.range n).map fun (i:Nat)=>RepD.new i n,[],[]⟩
def rep (q:QuoD) (i:Int):RepD:=q.reps.getD i.toNat (RepD.new 0 0)
def send1 (net:List MsgD) (m:MsgD):List MsgD:=(if 256≤net.length then net.tail else net)++[m]
def send (q:QuoD) (l:List MsgD):QuoD:={ q with net:=l.foldl send1 q.net }
def note1 (done:List EnD) (r:RepD):List EnD:=if r.commit≤done.length then done else (r.j.log.take r.commit.toNat).map (·.2)
def note (q:QuoD):QuoD:={ q with done:=q.reps.foldl note1 q.done }
def has (q:QuoD) (i:Int):Bool:=decide (0≤i) && decide (i<q.reps.length)
def set (q:QuoD) (i:Int) (r:RepD):QuoD:={ q with reps:=q.reps.set i.toNat r }
def campaign (q:QuoD) (i:Int):QuoD:=if q.has i=false then q else ((q.set i (q.rep i).campaign.1).send (q.rep i).campaign.2).note
def propose (q:QuoD) (i:Int) (e:EnD):QuoD × Int :=
 if q.has i=false then (q,1) else
 let x:=(q.rep i).propose e
 if x.2.2≠0 then (q,x.2.2) else (((q.set i x.1).send x.2.1).note,0)
def crash (q:QuoD) (i:Int):QuoD:=if q.has i=false then q else (q.set i (q.rep i).crash).note
def upB (up i:Int):Bool:=decide (0≤i) && up.toNat.testBit i.toNat
def deliver (q:QuoD) (m:MsgD):QuoD:=((q.set m.to ((q.rep m.to).handle m).1).send ((q.rep m.to).handle m).2).note
def flush:Nat→Int→Nat→QuoD→QuoD
 | 0,_,_,q=>q
 | f + 1, up, n, q => match q.net with
   | []=>q
   | m::r=>if 5000≤n then q else if upB up m.src=false∨upB up m.to=false then flush f up n { q with net:=r } else flush f up (n+1) (deliver { q with net:=r } m)
def leaderGo:List RepD→Nat→Int→QuoD→Int
 | [],_,best,_=>best
 | r::l,i,best,q=>leaderGo l (i+1) (if r.role=3∧(best<0∨(q.rep best).j.term<r.j.term) then (i:Int) else best) q
def leader (q:QuoD):Int:=leaderGo q.reps 0 (-1) q
end QuoD
structure PlaneD where
 c:CfgD
 q:QuoD
 up:Int
 s:StD
namespace PlaneD
def n (p:PlaneD):Nat:=p.c.reps.length
def new (c:CfgD):PlaneD:=⟨c,QuoD.new c.reps.length,2 ^ c.reps.length-1,newSt c⟩
def isUp (p:PlaneD) (i:Int):Bool:=decide (0≤i) && decide (i<p.n) && QuoD.upB p.up i
def ups (p:PlaneD):Nat:=((List.range p.n).filter fun (i:Nat)=>p.isUp i).length
def ready (p:PlaneD):Bool:=decide (p.n<2 * p.ups)
def bestGo (p:PlaneD):List Nat→Int→Int→Int→Int
 | [],best,_,_=>best
 | i :: l, best, term, len =>
   if p.isUp i=false then bestGo p l best term len else
   let r:=p.q.rep i
   if term<r.lastTerm∨r.lastTerm=term∧len<r.len then bestGo p l i r.lastTerm r.len else bestGo p l best term len
def best (p:PlaneD):Int:=p.bestGo (List.range p.n) (-1) (-1) (-1)
def flush (p:PlaneD):PlaneD:={ p with q:=p.q.flush 100000 p.up 0 }
def commit:Nat→PlaneD→EnD→PlaneD × Bool
 | 0,p,_=>(p,false)
 | f + 1, p, e =>
   let l:=p.q.leader
   if p.isUp l=true∧(p.q.propose l e).2=0 then
    let p1:={ p with q:=(p.q.propose l e).1 }.flush
    (p1,p.q.has l && decide (p.s.count<(p1.q.rep l).commit))
   else commit f ({ p with q:=p.q.campaign p.best }.flush) e
def propose (p:PlaneD) (e:EnD):PlaneD × Int × Int :=
 if p.ready=false then (p,0,16) else
 let x:=applyD p.c p.s e
 if x.1≠0 then (p,0,x.1) else
 let y:=commit 4 p e
 if y.2=false then (y.1,0,16) else ({ y.1 with s:=x.2 },p.s.count,0)
def fail (p:PlaneD) (i:Int):PlaneD × Int :=
 if i<0∨p.n≤i then (p,1) else if p.isUp i=false then (p,4) else ({ p with up:=p.up-2 ^ i.toNat,q:=p.q.crash i },0)
def heal (p:PlaneD) (i:Int):PlaneD × Int :=
 if i<0∨p.n≤i then (p,1) else if p.isUp i=true then (p,4) else ({ p with up:=p.up+2 ^ i.toNat },0)
end PlaneD
end Go.Proofs.YtpigpajgjdcagaaGreat
