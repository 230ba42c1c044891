/- Part 14 of the proof. -/
import Derived.Test.YtlkpikfddnjilaaGreatDoorE13
set_option linter.all false
set_option maxRecDepth 100000
set_option maxHeartbeats 4000000
open Go.Proofs.Tryz
open Go.IntKind (u8 u16 u32 u64 i64)
namespace Sd
structure EH (b:Prop) (r:Rec):Prop where
 kind:1<=r.kind/\r.kind<=12
 source:0<=r.source/\r.source<=4
 seq:0<=r.seq/\r.seq<=4294967295
 epoch:0<=r.epoch/\r.epoch<=65535
 code:b->0<=r.code/\r.code<=255
 how:0<=r.how/\r.how<=6
structure kH (r:Reply):Prop where
 kind:129<=r.kind/\r.kind<=136
 seq:0<=r.seq/\r.seq<=4294967295
 role:0<=r.role/\r.role<=3
 jB:0<=r.jB/\r.jB<=4
 epoch:0<=r.epoch/\r.epoch<=65535
 code:0<=r.code/\r.code<=255
 ae:∀j,0<=r.ae j/\r.ae j<=255
 aiT:r.kind≠131/\r.kind≠132->r.seq=0
 aii:r.kind≠130->r.role=0
 aiU:r.kind≠130/\r.kind≠134/\r.kind≠135/\r.kind≠136->r.jB=0
 ahb:r.kind≠130/\r.kind≠133/\r.kind≠134/\r.kind≠135->r.epoch=0
 aij:r.kind≠132/\r.kind≠136->r.code=0
 ahc:r.kind≠129->r.ae=λ_=>0
def Hj (x:Int×Reply):Prop:=(1<=x.1/\x.1<=3)/\kH x.2
structure Quiet (C:Crypt) (b:Prop) (s s':Scene):Prop where
 holder:s'.c.t.holder=s.c.t.holder
 epoch:s'.c.t.epoch=s.c.t.epoch
 p:s'.c.p=s.c.p
 recs:∃rs:List Rec,s'.recs=s.recs++rs/\(∀r∈rs,r.kind≠8/\r.epoch=s.c.t.epoch/\EH b r)/\s'.c.head=rs.foldl C.next s.c.head
 sent:∃ts:List (Int×Reply),s'.sent=s.sent++ts/\∀x∈ts,Hj x
theorem Quiet.refl (C:Crypt) (b:Prop) (s:Scene):Quiet C b s s:=⟨rfl,rfl,rfl,⟨[],by simp,by simp,rfl⟩,⟨[],by simp,by simp⟩⟩
theorem Quiet.trans {C:Crypt} {b:Prop} {s t u:Scene} (h:Quiet C b s t) (k:Quiet C b t u):Quiet C b s u:=by
 obtain⟨rs,r1,r2,r3⟩:=h.recs;obtain⟨qs,q1,q2,q3⟩:=k.recs;obtain⟨ts,t1,t2⟩:=h.sent;obtain⟨us,u1,u2⟩:=k.sent;refine⟨k.holder.trans h.holder,k.epoch.trans h.epoch,k.p.trans h.p,⟨rs++qs,by rw[q1,r1,List.append_assoc],?_,by rw[q3,r3,List.foldl_append]⟩,⟨ts++us,by rw[u1,t1,List.append_assoc],?_⟩⟩
 ·intro r hr;rcases List.mem_append.1 hr with hr|hr
  ·exact r2 r hr
  ·have:=q2 r hr;rw[h.epoch]at this;exact this
 ·intro x hx;rcases List.mem_append.1 hx with hx|hx
  ·exact t2 x hx
  ·exact u2 x hx
namespace Scene
@[simp] theorem tell_c (s:Scene) (l:Int) (r:Reply):(s.tell l r).c=s.c:=rfl
@[simp] theorem tell_recs (s:Scene) (l:Int) (r:Reply):(s.tell l r).recs=s.recs:=rfl
@[simp] theorem tell_sent (s:Scene) (l:Int) (r:Reply):(s.tell l r).sent=s.sent++[(l,r)]:=rfl
@[simp] theorem hear_c (s:Scene) (l:Int) (r:Reply):(s.hear l r).c=s.c:=by unfold hear;split<;>rfl
@[simp] theorem hear_recs (s:Scene) (l:Int) (r:Reply):(s.hear l r).recs=s.recs:=by unfold hear;split<;>rfl
@[simp] theorem gone_c (s:Scene) (l w c:Int):(s.gone l w c).c=s.c:=hear_c ..
@[simp] theorem gone_recs (s:Scene) (l w c:Int):(s.gone l w c).recs=s.recs:=hear_recs ..
@[simp] theorem done_c (s:Scene) (l n:Int):(s.done l n).c=s.c:=rfl
@[simp] theorem done_recs (s:Scene) (l n:Int):(s.done l n).recs=s.recs:=rfl
@[simp] theorem record_t (C:Crypt) (s:Scene) (k a n e h:Int):(s.record C k a n e h).c.t=s.c.t:=rfl
@[simp] theorem record_p (C:Crypt) (s:Scene) (k a n e h:Int):(s.record C k a n e h).c.p=s.c.p:=rfl
@[simp] theorem record_q (C:Crypt) (s:Scene) (k a n e h:Int):(s.record C k a n e h).c.q=s.c.q:=rfl
@[simp] theorem record_tab (C:Crypt) (s:Scene) (k a n e h:Int):(s.record C k a n e h).c.tab=s.c.tab:=rfl
@[simp] theorem record_sent (C:Crypt) (s:Scene) (k a n e h:Int):(s.record C k a n e h).sent=s.sent:=rfl
@[simp] theorem record_recs (C:Crypt) (s:Scene) (k a n e h:Int):(s.record C k a n e h).recs=s.recs++[⟨k,a,n,s.c.t.epoch,e,h⟩]:=rfl
theorem jH {C:Crypt} {b:Prop} {s:Scene} {l:Int} {r:Reply} (h:Hj (l,r)):Quiet C b s (s.tell l r):=
 ⟨rfl,rfl,rfl,⟨[],by simp,by simp,rfl⟩,⟨[(l,r)],rfl,by simpa using h⟩⟩
theorem fE {C:Crypt} {b:Prop} {s:Scene} {l:Int} {r:Reply} (h:kH r):Quiet C b s (s.hear l r):=by
 unfold hear;split
 ·rename_i hh;refine jH ⟨?_,h⟩;simp[linked]at hh;exact hh.1
 ·exact Quiet.refl ..
theorem bS {C:Crypt} {b:Prop} {s:Scene} {k a n e h:Int} (hk:k≠8) (hb:EH b ⟨k,a,n,s.c.t.epoch,e,h⟩):Quiet C b s (s.record C k a n e h):=
 ⟨rfl,rfl,rfl,⟨[⟨k,a,n,s.c.t.epoch,e,h⟩],rfl,by simpa using⟨hk,hb⟩,rfl⟩,⟨[],by simp,by simp⟩⟩
theorem aR {C:Crypt} {b:Prop} {s:Scene} {c:Core} (h1:c.t.holder=s.c.t.holder) (h2:c.t.epoch=s.c.t.epoch) (h3:c.p=s.c.p) (h4:c.head=s.c.head):Quiet C b s {s with c:=c}:=
 ⟨h1,h2,h3,⟨[],by simp,by simp,h4⟩,⟨[],by simp,by simp⟩⟩
end Scene
theorem Inv.head {c:Core} (h:Inv c) (x:Byt):Inv {c with head:=x}:=⟨h.p,h.tok,h.q,h.tab,h.samples,h.mode,h.doors⟩
theorem Inv.record {C:Crypt} {s:Scene} (h:Inv s.c) (k a n e w:Int):Inv (s.record C k a n e w).c:=h.head _
theorem Inv.tell {s:Scene} (h:Inv s.c) (l:Int) (r:Reply):Inv (s.tell l r).c:=h
theorem Inv.hear {s:Scene} (h:Inv s.c) (l:Int) (r:Reply):Inv (s.hear l r).c:=by rw[Scene.hear_c];exact h
theorem IG.drop {p:Pol} {t:Tab} {h h':Int} {q:List Ask} (k:IG p t h q) (s:Int) (hh:∀a∈q,a.source≠s->a.source≠h'):IG p t h' (Q.drop q s) where
 each:=by
  intro a ha;simp only[Q.drop,List.mem_filter,decide_eq_true_eq]at ha;obtain⟨a1,a2,a3,a4,a5,a6⟩:=k.each a ha.1;exact⟨a1,a2,a3,a4,hh a ha.1 ha.2,a6⟩
 sorted:=k.sorted.filter _
 len:=by have:=List.length_filter_le (λa:Ask=>decide (a.source≠s)) q;have:=k.len;unfold Q.drop;omega
theorem iB.pass {p:Pol} {tab:Tab} {t:Tok} (hp:cP p) {cg e:Int} (ht:0<=cg/\cg<=4) (he:p.epoch<=e/\e<=65535):iB p tab (t.pass cg e):=
 ⟨ht,he,.inl rfl,.inl ⟨rfl,rfl⟩⟩
structure zx (C:Crypt) (b:Prop) (s s':Scene) (how:Int):Prop where
 p:s'.c.p=s.c.p
 holder:s'.c.t.holder≠s.c.t.holder
 offer:s'.c.t.offer=-1
 epoch:(s.c.t.epoch<65535/\s'.c.t.epoch=s.c.t.epoch+1)\/(s.c.t.epoch=65535/\s'.c.t.epoch=65535/\how=6)
 recs:∃(pre:List Rec) (n:Int) (post:List Rec),s'.recs=s.recs++(pre++⟨8,s'.c.t.holder,n,s'.c.t.epoch,0,how⟩::post)/\
  (∀r∈pre,r.kind≠8/\r.epoch=s.c.t.epoch/\EH b r)/\EH b ⟨8,s'.c.t.holder,n,s'.c.t.epoch,0,how⟩/\
  (∀r∈post,r.kind≠8/\r.epoch=s'.c.t.epoch/\EH b r)/\
  s'.c.head=(pre++⟨8,s'.c.t.holder,n,s'.c.t.epoch,0,how⟩::post).foldl C.next s.c.head
 sent:∃ts:List (Int×Reply),s'.sent=s.sent++ts/\∀x∈ts,Hj x
theorem Quiet.goes {C:Crypt} {b:Prop} {s t u:Scene} {how:Int} (h:Quiet C b s t) (k:zx C b t u how):zx C b s u how:=by
 obtain⟨rs,r1,r2,r3⟩:=h.recs;obtain⟨pre,n,post,q1,q2,q3,q4,q5⟩:=k.recs;obtain⟨ts,t1,t2⟩:=h.sent;obtain⟨us,u1,u2⟩:=k.sent;refine⟨k.p.trans h.p,by rw[<-h.holder];exact k.holder,k.offer,by have:=k.epoch;rw[h.epoch]at this;exact this,⟨rs++pre,n,post,by rw[q1,r1];simp,?_,q3,q4,by rw[q5,r3];simp[List.foldl_append]⟩,⟨ts++us,by rw[u1,t1,List.append_assoc],?_⟩⟩
 ·intro r hr;rcases List.mem_append.1 hr with hr|hr
  ·exact r2 r hr
  ·have:=q2 r hr;rw[h.epoch]at this;exact this
 ·intro x hx;rcases List.mem_append.1 hx with hx|hx
  ·exact t2 x hx
  ·exact u2 x hx
theorem zx.quiet {C:Crypt} {b:Prop} {s t u:Scene} {how:Int} (h:zx C b s t how) (k:Quiet C b t u) (ho:u.c.t.offer=-1):zx C b s u how:=by
 obtain⟨pre,n,post,q1,q2,q3,q4,q5⟩:=h.recs;obtain⟨rs,r1,r2,r3⟩:=k.recs;obtain⟨ts,t1,t2⟩:=h.sent;obtain⟨us,u1,u2⟩:=k.sent;refine⟨k.p.trans h.p,by rw[k.holder];exact h.holder,ho,by rw[k.epoch];exact h.epoch,⟨pre,n,post++rs,by rw[r1,q1,k.holder,k.epoch];simp,q2,by rw[k.holder,k.epoch];exact q3,?_,by rw[r3,q5,k.holder,k.epoch,<-List.foldl_append];simp⟩,⟨ts++us,by rw[u1,t1,List.append_assoc],?_⟩⟩
 ·intro r hr;rw[k.epoch];rcases List.mem_append.1 hr with hr|hr
  ·exact q4 r hr
  ·exact r2 r hr
 ·intro x hx;rcases List.mem_append.1 hx with hx|hx
  ·exact t2 x hx
  ·exact u2 x hx
namespace Scene
@[simp] theorem goes_t (C:Crypt) (s:Scene) (t:Tok) (h n:Int):(s.goes C t h n).c.t=t:=by simp[goes]
@[simp] theorem goes_p (C:Crypt) (s:Scene) (t:Tok) (h n:Int):(s.goes C t h n).c.p=s.c.p:=by simp[goes]
@[simp] theorem goes_q (C:Crypt) (s:Scene) (t:Tok) (h n:Int):(s.goes C t h n).c.q=Q.drop s.c.q t.holder:=by simp[goes]
@[simp] theorem goes_tab (C:Crypt) (s:Scene) (t:Tok) (h n:Int):(s.goes C t h n).c.tab=s.c.tab:=by simp[goes]
theorem zz (C:Crypt) (s:Scene) (t:Tok) (h n:Int):∃x,(s.goes C t h n).c={s.c with t:=t,q:=Q.drop s.c.q t.holder,head:=x}:=by
 refine⟨(s.goes C t h n).c.head,?_⟩;simp[goes,record]
theorem EI {jB e:Int} (h:0<=jB/\jB<=4) (he:0<=e/\e<=65535):kH {kind:=134,jB:=jB,epoch:=e}:=by
 constructor<;>simp<;>omega
theorem B7 {e:Int} (he:0<=e/\e<=65535):kH {kind:=133,epoch:=e}:=by
 constructor<;>simp<;>omega
theorem B8 {jB e:Int} (h:0<=jB/\jB<=4) (he:0<=e/\e<=65535):kH {kind:=135,jB:=jB,epoch:=e}:=by
 constructor<;>simp<;>omega
theorem jI {jB c:Int} (h:0<=jB/\jB<=4) (hc:0<=c/\c<=255):kH {kind:=136,jB:=jB,code:=c}:=by
 constructor<;>simp<;>omega
theorem NJ {n:Int} (h:0<=n/\n<=4294967295):kH {kind:=131,seq:=n}:=by
 constructor<;>simp<;>omega
theorem EJ {n c:Int} (h:0<=n/\n<=4294967295) (hc:0<=c/\c<=255):kH {kind:=132,seq:=n,code:=c}:=by
 constructor<;>simp<;>omega
theorem wZ {r w e:Int} (h:0<=r/\r<=3) (hw:0<=w/\w<=4) (he:0<=e/\e<=65535):kH {kind:=130,role:=r,jB:=w,epoch:=e}:=by
 constructor<;>simp<;>omega
theorem B9 {n:Byt} (h:∀j,0<=n j/\n j<=255):kH {kind:=129,ae:=n}:=by
 constructor<;>simp<;>omega
theorem ll {C:Crypt} {b:Prop} {s:Scene} {t:Tok} {how n:Int} (hh:0<=t.holder/\t.holder<=4) (hn:t.holder≠s.c.t.holder) (ho:t.offer=-1)
 (he:(s.c.t.epoch<65535/\t.epoch=s.c.t.epoch+1)\/(s.c.t.epoch=65535/\t.epoch=65535/\how=6)) (hs:0<=s.c.t.epoch)
 (ad9:0<=how/\how<=6) (aiV:0<=n/\n<=4294967295):zx C b s (s.goes C t how n) how:=by
 have et:0<=t.epoch/\t.epoch<=65535:=by omega
 have q2:Quiet C b ({s with c:={s.c with t:=t,q:=Q.drop s.c.q t.holder}}:Scene) ((({s with c:={s.c with t:=t,q:=Q.drop s.c.q t.holder}}:Scene).hear s.c.t.holder {kind:=134,jB:=t.holder,epoch:=t.epoch}).hear t.holder {kind:=133,epoch:=t.epoch}):=
  (fE (EI hh et)).trans (fE (B7 et))
 obtain⟨ts,t1,t2⟩:=q2.sent;exact⟨by simp,by simpa using hn,by simpa using ho,by simpa using he,
  ⟨[],n,[],by simp[goes],by simp,by constructor<;>simp<;>omega,by simp,by simp[goes,record]⟩,
  ⟨ts,by simpa[goes]using t1,t2⟩⟩
end Scene
theorem qt {t:Tok} {cg:Int} (h:(t.bz cg).2=0):(t.bz cg).1=t.pass cg (t.epoch+1)/\0<=cg/\cg<=4/\cg≠t.holder/\t.epoch<65535:=by
 unfold Tok.bz at*;split at h
 ·simp at h
 ·split at h
  ·simp at h
  ·split at h
   ·simp at h
   ·rename_i a b c;simp[a,b,c];omega
theorem lU (t:Tok) (cg:Int):0<=(t.bz cg).2/\(t.bz cg).2<=25:=by
 unfold Tok.bz;split<;>(try split)<;>(try split)<;>simp
structure uZ (m:dw):Prop where
 kind:1<=m.kind/\m.kind<=11
 seq:0<=m.seq/\m.seq<=4294967295
 role:0<=m.role/\m.role<=3
 cg:0<=m.cg/\m.cg<=4
 epoch:0<=m.epoch/\m.epoch<=65535
 mode:0<=m.mode/\m.mode<=4
 cls:0<=m.cls/\m.cls<=3
 aik:m.kind=11->1<=m.cls
def xF (TV now:Core) (kind link how:Int):Prop:=
 (how=1/\kind=0/\TV.t.offer=now.t.holder/\link=now.t.holder)\/
 (how=2/\kind<2/\(∃a l,TV.q=a::l/\a.source=now.t.holder)/\(kind=1↔TV.t.holder=0))\/
 (how=3/\kind=0/\link=now.t.holder/\cp TV.p now.t.holder TV.t.holder=true/\TV.t.bad=false)\/
 (how=4/\kind=1/\now.t.holder=0)\/
 (how=5/\kind=3/\now.tab.on TV.t.holder=false/\now.tab.on now.t.holder=true)\/
 (how=6/\now.t.holder=4/\((kind=2/\now.t.bad=true)\/(kind=3/\TV.t.epoch=65535/\now.tab.on TV.t.holder=false)))
structure nV (C:Crypt) (b:Prop) (s s':Scene) (kind link:Int):Prop where
 inv:Inv s'.c
 NK:Quiet C b s s'\/∃how,zx C b s s' how/\xF s.c s'.c kind link how
theorem nV.cH {C:Crypt} {b:Prop} {s s':Scene} {kind link:Int} (h:Inv s'.c) (q:Quiet C b s s'):nV C b s s' kind link:=⟨h,.inl q⟩
theorem Inv.zA {c:Core} (h:Inv c) {t:Tok} {q:List Ask} (ht:iB c.p c.tab t) (hq:IG c.p c.tab t.holder q):Inv {c with t:=t,q:=q}:=
 ⟨h.p,ht,hq,h.tab,h.samples,h.mode,h.doors⟩
theorem Inv.goes {C:Crypt} {s:Scene} (h:Inv s.c) {t:Tok} {how n:Int} (ht:iB s.c.p s.c.tab t):Inv (s.goes C t how n).c:=by
 obtain⟨x,hx⟩:=Scene.zz C s t how n;rw[hx];exact(h.zA ht (h.q.drop t.holder (λa _ ha=>ha))).head x
variable{C:Crypt} {b:Prop} {s:Scene} {l:Int} {m:dw}
theorem Inv.eH {c:Core} (h:Inv c):0<=c.t.epoch/\c.t.epoch<=65535:=by have:=h.tok.epoch;have:=h.p.epoch;omega
theorem lV {n e:Int} (h:Inv s.c) (hl:1<=l/\l<=3) (hn:0<=n/\n<=4294967295) (he:0<=e/\e<=255):Quiet C b s (s.refuse C l n e):=by
 have:=h.eH;exact(Scene.jH ⟨hl,Scene.EJ hn he⟩).trans (Scene.bS (by simp) (by constructor<;>simp<;>omega))
theorem eU {n e kind link:Int} (h:Inv s.c) (hl:1<=l/\l<=3) (hn:0<=n/\n<=4294967295) (he:0<=e/\e<=255):nV C b s (s.refuse C l n e) kind link:=
 .cH (h.head _) (lV h hl hn he)
theorem qu {e:Int} (h:Inv s.c) (hl:1<=l/\l<=3) (he:b->0<=e/\e<=255):Quiet C b s (s.dp C l e):=by
 have:=h.eH;exact Scene.bS (by simp) (by constructor<;>simp<;>first|omega|exact he)
theorem jJ {e kind link:Int} (h:Inv s.c) (hl:1<=l/\l<=3) (he:b->0<=e/\e<=255):nV C b s (s.dp C l e) kind link:=
 .cH (h.head _) (qu h hl he)
theorem u5 {n:Int} (hl:1<=l/\l<=3) (hn:0<=n/\n<=4294967295):Quiet C b s (s.done l n):=Scene.jH ⟨hl,Scene.NJ hn⟩
theorem iH {t:Scene} {n kind link:Int} (h:nV C b s t kind link) (hl:1<=l/\l<=3) (hn:0<=n/\n<=4294967295):nV C b s (t.done l n) kind link:=
 ⟨h.inv,h.NK.imp (λq=>q.trans (u5 hl hn)) (λ⟨how,g,k⟩=>⟨how,g.quiet (u5 hl hn) g.offer,k⟩)⟩
theorem Jq (p:Pol) (t:Tok) (f o:Int) (th:Bool):0<=(t.make p f o th).2/\(t.make p f o th).2<=28:=by
 unfold Tok.make;repeat' split
 all_goals simp
theorem TW {p:Pol} {t:Tok} {f o:Int} {th:Bool} (h:(t.make p f o th).2=0):
 (t.make p f o th).1={t with offer:=o,oa:=.start p.offer}/\f=t.holder/\t.epoch<65535/\o≠f/\1<=o/\o<=3/\th=true/\t.offer<0:=by
 unfold Tok.make at*;split at h
 ·simp at h
 split at h
 ·simp at h
 split at h
 ·simp at h
 split at h
 ·simp at h
 split at h
 ·simp at h
 rename_i h1 h2 h3 h4 h5;have h6:th=true:=by
  cases th
  ·exact absurd (.inr (.inr rfl)) h4
  ·rfl
 rw[if_neg h1,if_neg h2,if_neg h3,if_neg h4,if_neg h5];exact⟨rfl,by simpa using h1,by omega,h3,by omega,by omega,h6,by omega⟩
theorem B_ (t:Tok) (f e:Int):0<=(t.accept f e).2/\(t.accept f e).2<=28:=by
 unfold Tok.accept;split
 ·simp
 split
 ·simp
 have:=lU t f;omega
theorem Jr {t:Tok} {f e:Int} (h:(t.accept f e).2=0):
 (t.accept f e).1=t.pass f (t.epoch+1)/\t.offer=f/\e=t.epoch/\0<=f/\f<=4/\f≠t.holder/\t.epoch<65535:=by
 unfold Tok.accept at*;split at h
 ·simp at h
 split at h
 ·simp at h
 rename_i h1 h2;obtain⟨g1,g2,g3,g4,g5⟩:=qt h;have h3:t.offer=f:=by
  by_cases hx:t.offer=f
  ·exact hx
  ·exact absurd (.inr hx) h1
 rw[if_neg h1,if_neg h2];exact⟨g1,h3,by simpa using h2,g2,g3,g4,g5⟩
theorem Js (t:Tok) (f:Int):0<=(t.ft f).2/\(t.ft f).2<=28:=by
 unfold Tok.ft;split<;>simp
theorem TX {t:Tok} {f:Int} (h:(t.ft f).2=0):(t.ft f).1=t.bG/\t.offer=f:=by
 unfold Tok.ft at*;split at h
 ·simp at h
 rename_i h1;rw[if_neg h1];refine⟨rfl,?_⟩;by_cases hx:t.offer=f
 ·exact hx
 ·exact absurd (.inr hx) h1
theorem Jt (h:Inv s.c) (hl:1<=l/\l<=3) (hm:uZ m):nV C b s (s.offer C l m) 0 l:=by
 have he:=h.eH;unfold Scene.offer;dsimp only;split
 ·have:=Jq s.c.p s.c.t l m.cg (s.c.tab.on m.cg);exact eU h hl hm.seq (by omega)
 rename_i hz;obtain⟨g1,g2,g3,g4,g5,g6,g7,g8⟩:=TW (by simpa using hz);rw[g1];refine iH ?_ hl hm.seq;have ht:iB s.c.p s.c.tab {s.c.t with offer:=m.cg,oa:=Timer.start s.c.p.offer}:=
  ⟨h.tok.holder,h.tok.epoch,.inr ⟨g5,g6,by simp;omega,g7,by simp[Timer.start];have:=h.p.offer;omega,by simp[Timer.start],by simp[Timer.start];have:=h.p.offer;omega⟩,h.tok.lost⟩
 refine .cH ?_ ?_
 ·exact Inv.record (Inv.hear (s:=s.bb _) (h.zA ht h.q) _ _) ..
 ·have hh:=h.tok.holder;refine Quiet.trans (t:=s.bb {s.c.t with offer:=m.cg,oa:=Timer.start s.c.p.offer}) (Scene.aR rfl rfl rfl rfl) ?_;refine Quiet.trans (Scene.fE (Scene.B8 (by omega) (by simpa using he))) (Scene.bS (by simp) ?_);have:=hm.seq;constructor<;>simp[Scene.bb]<;>omega
theorem EK (h:Inv s.c) (hl:1<=l/\l<=3) (hm:uZ m):nV C b s (s.accept C l m) 0 l:=by
 have he:=h.eH;unfold Scene.accept;dsimp only;split
 ·have:=B_ s.c.t l m.epoch;exact eU h hl hm.seq (by omega)
 rename_i hz;obtain⟨g1,g0,ge,g2,g3,g4,g5⟩:=Jr (by simpa using hz);rw[g1];refine iH ⟨?_,.inr ⟨1,?_,?_⟩⟩ hl hm.seq
 ·exact h.goes (iB.pass h.p (by omega) (by have:=h.tok.epoch;omega))
 ·exact Scene.ll (by simp[Tok.pass];omega) (by simpa[Tok.pass]using g4) rfl (.inl ⟨g5,rfl⟩) he.1 (by simp) hm.seq
 ·exact .inl ⟨rfl,rfl,by simpa[Tok.pass]using g0,by simp[Tok.pass]⟩
theorem NL (h:Inv s.c) (hl:1<=l/\l<=3) (hm:uZ m):nV C b s (s.ft C l m) 0 l:=by
 have he:=h.eH;unfold Scene.ft;dsimp only;split
 ·have:=Js s.c.t l;exact eU h hl hm.seq (by omega)
 rename_i hz;obtain⟨g1,g2⟩:=TX (by simpa using hz);rw[g1];refine iH ?_ hl hm.seq;have ht:iB s.c.p s.c.tab s.c.t.bG:=⟨h.tok.holder,h.tok.epoch,.inl rfl,h.tok.lost⟩;refine .cH ?_ ?_
 ·exact Inv.record (Inv.hear (s:=s.bb _) (h.zA ht h.q) _ _) ..
 ·refine Quiet.trans (t:=s.bb s.c.t.bG) (Scene.aR rfl rfl rfl rfl) ?_;refine Quiet.trans (Scene.fE (Scene.jI (by omega) (by simp))) (Scene.bS (by simp) ?_);have:=hm.seq;constructor<;>simp[Scene.bb,Tok.bG]<;>omega
end Sd
namespace Sd
theorem mem_insert {q:List Ask} {a x:Ask}:x∈Q.insert q a↔x=a\/x∈q:=by
 unfold Q.insert;rw[List.mem_append,List.mem_cons];have:=List.takeWhile_append_dropWhile (p:=λx:Ask=>decide (x.aU<=a.aU)) (l:=q);constructor
 ·rintro(h|h|h)
  ·exact .inr (List.takeWhile_prefix _|>.subset h)
  ·exact .inl h
  ·exact .inr (List.dropWhile_suffix _|>.subset h)
 ·rintro(h|h)
  ·exact .inr (.inl h)
  ·rw[<-this,List.mem_append]at h;rcases h with h|h
   ·exact .inl h
   ·exact .inr (.inr h)
theorem length_insert (q:List Ask) (a:Ask):(Q.insert q a).length=q.length+1:=by
 have:=congrArg List.length (List.takeWhile_append_dropWhile (p:=λx:Ask=>decide (x.aU<=a.aU)) (l:=q));simp only[List.length_append]at this;simp only[Q.insert,List.length_append,List.length_cons];omega
theorem Ca (y:Ask) (q:List Ask) (a:Ask):Q.insert (y::q) a=if y.aU<=a.aU then y::Q.insert q a else a::y::q:=by
 unfold Q.insert;simp only[List.takeWhile_cons,List.dropWhile_cons];by_cases h:y.aU<=a.aU<;>simp[h]
theorem insert_sorted {q:List Ask} {a:Ask} (h:q.Pairwise λa b=>a.aU<b.aU) (hn:∀x∈q,x.aU≠a.aU):(Q.insert q a).Pairwise λa b=>a.aU<b.aU:=by
 induction q with
 |nil=>simp[Q.insert]
 |cons y q ih=>
  rw[Ca];rw[List.pairwise_cons]at h;have hy:=hn y (by simp);split
  ·rw[List.pairwise_cons];refine⟨λx hx=>?_,ih h.2 (λx hx=>hn x (by simp[hx]))⟩;rcases mem_insert.1 hx with rfl|hx
   ·omega
   ·exact h.1 x hx
  ·rw[List.pairwise_cons,List.pairwise_cons];refine⟨λx hx=>?_,h.1,h.2⟩;rcases List.mem_cons.1 hx with rfl|hx
   ·omega
   ·have:=h.1 x hx;omega
theorem Ju (most:Int) (q:List Ask) (a:Ask):0<=(Q.push most q a).2/\(Q.push most q a).2<=27:=by
 unfold Q.push;repeat' split
 all_goals simp
theorem TY {most:Int} {q:List Ask} {a:Ask} (h:(Q.push most q a).2=0):(Q.push most q a).1=Q.insert q a/\Q.waits q a.source=false/\(q.length:Int)<most:=by
 unfold Q.push at*;split at h
 ·simp at h
 split at h
 ·simp at h
 rename_i h1 h2;rw[if_neg h1,if_neg h2];exact⟨rfl,by simpa using h1,by omega⟩
theorem Jv {q:List Ask} {s:Int} (h:Q.waits q s=false):∀x∈q,x.source≠s:=by
 intro x hx e;have:Q.waits q s=true:=by unfold Q.waits;rw[List.any_eq_true];exact⟨x,hx,by simp[e]⟩
 rw[this]at h;cases h
theorem IG.insert {p:Pol} {t:Tab} {h:Int} {q:List Ask} (hp:cP p) (k:IG p t h q) {s:Int} (hs:1<=s/\s<=3) (tp:t.on s=true) (hh:s≠h)
 (hw:Q.waits q s=false) (hl:(q.length:Int)<p.queue):IG p t h (Q.insert q ⟨s,aU p s,.start p.ask⟩) where
 each:=by
  intro a ha;rcases mem_insert.1 ha with rfl|ha
  ·have:=hp.ask;refine⟨rfl,hs.1,hs.2,tp,hh,?_,?_,?_⟩<;>simp[Timer.start]<;>omega
  ·exact k.each a ha
 sorted:=insert_sorted k.sorted (λx hx e=>by
  have h1:=k.each x hx;have h2:=Jv hw x hx;rw[h1.1]at e;exact h2 (xi hp (by omega) (by omega) e))
 len:=by rw[length_insert];omega
theorem NM {p:Pol} {t:Tok} {most:Int} {q:List Ask} {f:Int} {now:Bool}:0<=(cF p t most q f now).2.2.1/\(cF p t most q f now).2.2.1<=29:=by
 unfold cF;have h1:=lU t f;have h2:=Ju most q ⟨f,aU p f,.start p.ask⟩
 repeat' split
 all_goals first|(simp;done)|(simp;omega)|omega
theorem Z0 {p:Pol} {t:Tok} {most:Int} {q:List Ask} {f:Int} {now:Bool} (h:(cF p t most q f now).2.2.1=0):
 t.bad=false/\f≠t.holder/\t.epoch<65535/\
 ((cF p t most q f now=(t.pass f (t.epoch+1),3,0,Q.drop q f)/\0<=f/\f<=4/\(t.holder=4\/cp p f t.holder=true))\/
  (cF p t most q f now=(t,0,0,Q.insert q ⟨f,aU p f,.start p.ask⟩)/\Q.waits q f=false/\(q.length:Int)<most/\t.holder≠4/\now=false)):=by
 unfold cF at*;split at h
 ·simp at h
 split at h
 ·simp at h
 split at h
 ·simp at h
 rename_i h1 h2 h3;rw[if_neg h1,if_neg h2,if_neg h3];refine⟨by simpa using h1,h2,by omega,?_⟩;split at h
 ·rename_i h4;rw[if_pos h4];split at h
  ·rename_i h5;exact absurd h h5
  ·rename_i h5;rw[if_neg h5];obtain⟨g1,g2,g3,g4,g5⟩:=qt (by simpa using h5);exact .inl ⟨by rw[g1],g2,g3,h4.imp id And.right⟩
 ·rename_i h4;rw[if_neg h4];split at h
  ·simp at h
  ·rename_i h5;rw[if_neg h5];obtain⟨g1,g2,g3⟩:=TY h;refine .inr ⟨?_,g2,g3,λe=>h4 (.inl e),by simpa using h5⟩;rw[g1];exact Prod.ext rfl (Prod.ext rfl (Prod.ext h rfl))
theorem zB (t:Tok) (q:List Ask):0<=(bg t q).2.1/\(bg t q).2.1<=25:=by
 unfold bg;split
 ·simp
 ·rename_i a l;have:=lU t a.source;split<;>first|(simp;done)|(simp;omega)|omega
theorem EL {t:Tok} {q:List Ask} (h:(bg t q).2.1=0):
 ∃a l,q=a::l/\bg t q=(t.pass a.source (t.epoch+1),0,Q.drop q a.source)/\0<=a.source/\a.source<=4/\a.source≠t.holder/\t.epoch<65535:=by
 unfold bg at*;split at h
 ·simp at h
 ·rename_i a l;split at h
  ·rename_i h5;exact absurd h h5
  ·rename_i h5;obtain⟨g1,g2,g3,g4,g5⟩:=qt (by simpa using h5);refine⟨a,l,rfl,?_,g2,g3,g4,g5⟩;show(if(t.bz a.source).2≠0 then _ else _)=_;rw[if_neg h5,g1]
theorem qx (t:Tok) (q:List Ask) (f:Int):0<=(aw t q f).2.1/\(aw t q f).2.1<=25:=by
 unfold aw;have:=zB t q
 repeat' split
 all_goals first|(simp;done)|(simp;omega)|omega
theorem u6 {t:Tok} {q:List Ask} {f:Int} (h:(aw t q f).2.1=0):
 f=t.holder/\∃a l,q=a::l/\aw t q f=(t.pass a.source (t.epoch+1),0,Q.drop q a.source)/\0<=a.source/\a.source<=4/\a.source≠t.holder/\t.epoch<65535:=by
 unfold aw at*;split at h
 ·simp at h
 split at h
 ·simp at h
 rename_i h1 h2;rw[if_neg h1,if_neg h2];exact⟨by simpa using h1,EL h⟩
variable{C:Crypt} {b:Prop} {s:Scene} {l:Int} {m:dw}
theorem mW {kind link how n f:Int} {q:List Ask} (h:Inv s.c) (hf:0<=f/\f<=4) (hq:∃x,q=Q.drop s.c.q x) (fc:f≠s.c.t.holder) (he:s.c.t.epoch<65535)
 (ad9:0<=how/\how<=6) (hn:0<=n/\n<=4294967295)
 (hk:xF s.c (Scene.goes C ({s with c:={s.c with q:=q}}:Scene) (s.c.t.pass f (s.c.t.epoch+1)) how n).c kind link how):
 nV C b s (Scene.goes C ({s with c:={s.c with q:=q}}:Scene) (s.c.t.pass f (s.c.t.epoch+1)) how n) kind link:=by
 have e0:=h.eH;obtain⟨x,rfl⟩:=hq;have h1:Inv ({s.c with q:=Q.drop s.c.q x}:Core):=⟨h.p,h.tok,h.q.drop x (λa ha hx=>(h.q.each a ha).2.2.2.2.1),h.tab,h.samples,h.mode,h.doors⟩;refine⟨?_,.inr ⟨how,?_,hk⟩⟩
 ·exact Inv.goes (s:={s with c:={s.c with q:=Q.drop s.c.q x}}) h1 (iB.pass h.p hf (by have:=h.tok.epoch;omega))
 ·have q0:Quiet C b s ({s with c:={s.c with q:=Q.drop s.c.q x}}:Scene):=Scene.aR rfl rfl rfl rfl;exact q0.goes (Scene.ll (by simp[Tok.pass];omega) (by simpa[Tok.pass]using fc) rfl (.inl ⟨he,rfl⟩) e0.1 ad9 hn)
theorem Cb (h:Inv s.c) (hl:1<=l/\l<=3) (hm:uZ m):nV C b s (s.release C l m) 0 l:=by
 unfold Scene.release;dsimp only;split
 ·have h2:=qx s.c.t s.c.q l;exact eU h hl hm.seq ⟨h2.1,Int.le_trans h2.2 (by decide)⟩
 rename_i hz;obtain⟨g0,a,r,g1,g2,g3,g4,g5,g6⟩:=u6 (by simpa using hz);rw[g2];refine iH (mW h ⟨g3,g4⟩ ⟨_,rfl⟩ g5 g6 (by simp) hm.seq ?_) hl hm.seq;refine .inr (.inl ⟨rfl,by simp,⟨a,r,g1,by simp[Tok.pass]⟩,?_⟩);simp;omega
theorem TZ (h:Inv s.c) (hl:1<=l/\l<=3) (hm:uZ m) (tp:s.c.tab.on l=true):nV C b s (s.ask C l m) 0 l:=by
 have e0:=h.eH;unfold Scene.ask;dsimp only;split
 ·have h2:=@NM s.c.p s.c.t s.c.p.queue s.c.q l m.now;exact eU h hl hm.seq ⟨h2.1,Int.le_trans h2.2 (by decide)⟩
 rename_i hz;obtain⟨g1,g2,g3,g4⟩:=Z0 (by simpa using hz);refine iH ?_ hl hm.seq;rcases g4 with⟨g4,g5,g6,g7⟩|⟨g4,g5,g6,g7⟩
 ·rw[g4];rw[if_pos (by simp)];refine mW h ⟨g5,g6⟩ ⟨_,rfl⟩ g2 g3 (by simp) hm.seq ?_;refine .inr (.inr (.inl ⟨rfl,rfl,by simp[Tok.pass],?_,g1⟩));simp only[Scene.goes_t,Tok.pass];rcases g7 with g7|g7
  ·rw[g7,IF h.p (by omega) (by omega)];simpa using Yg h.p (by omega)
  ·exact g7
 ·rw[g4];rw[if_neg (by simp)];refine .cH ?_ ?_
  ·refine Inv.record (s:=({s with c:={s.c with q:=Q.insert s.c.q ⟨l,aU s.c.p l,Timer.start s.c.p.ask⟩}}:Scene).bb s.c.t) (h.zA h.tok ?_) ..;exact h.q.insert h.p hl tp g2 g5 g6
  ·refine Quiet.trans (t:=({s with c:={s.c with q:=Q.insert s.c.q ⟨l,aU s.c.p l,Timer.start s.c.p.ask⟩}}:Scene).bb s.c.t) (Scene.aR rfl rfl rfl rfl) (Scene.bS (by simp) ?_);have:=hm.seq;constructor<;>simp[Scene.bb]<;>omega
theorem pa (p:Pol) (t:Tok) (a r mo:Int) (m:dw):0<=i_ p t a r mo m/\i_ p t a r mo m<=23:=by
 unfold i_;by_cases h1:m.kind≠10/\m.kind≠11
 ·rw[if_pos h1];simp
 rw[if_neg h1];by_cases h2:a≠t.holder
 ·rw[if_pos h2];simp
 rw[if_neg h2];by_cases h3:m.epoch≠t.epoch
 ·rw[if_pos h3];simp
 rw[if_neg h3];by_cases h4:may p mo r (if m.kind=10 then 0 else m.cls)=false
 ·rw[if_pos h4];simp
 rw[if_neg h4];by_cases h5:m.kind=10/\Sd.goes p mo m.mode=false
 ·rw[if_pos h5];simp
 ·rw[if_neg h5];simp
theorem Cc (h:Inv s.c) (hl:1<=l/\l<=3) (hm:uZ m):nV C b s (s.command C l m) 0 l:=by
 have e0:=h.eH;unfold Scene.command;dsimp only;split
 ·have:=pa s.c.p s.c.t l (s.c.tab.role l) s.c.mode m;exact eU h hl hm.seq (by omega)
 refine iH ?_ hl hm.seq;have:=hm.seq;split
 ·refine .cH (Inv.head (c:={s.c with mode:=m.mode,bP:=_}) ⟨h.p,h.tok,h.q,h.tab,h.samples,hm.mode,h.doors⟩ _) ?_;refine Quiet.trans (t:={s with c:={s.c with mode:=m.mode,bP:=⟨1,l,m.seq⟩}}) (Scene.aR rfl rfl rfl rfl) (Scene.bS (by simp) ?_);constructor<;>simp<;>omega
 ·refine .cH (Inv.head (c:={s.c with pt:=s.c.pt.set s.c.p m.cls m.x ⟨1,l,m.seq⟩}) ⟨h.p,h.tok,h.q,h.tab,h.samples,h.mode,h.doors⟩ _) ?_;refine Quiet.trans (t:={s with c:={s.c with pt:=s.c.pt.set s.c.p m.cls m.x ⟨1,l,m.seq⟩}}) (Scene.aR rfl rfl rfl rfl) (Scene.bS (by simp) ?_);constructor<;>simp<;>omega
end Sd
namespace Sd
variable{C:Crypt} {b:Prop} {s:Scene} {l:Int} {m:dw}
theorem qy (t:Tok) (x:Int):(t.drop x).1.holder=t.holder/\(t.drop x).1.epoch=t.epoch/\(t.drop x).1.la=t.la/\(t.drop x).1.bad=t.bad/\
 ((t.drop x).1=t/\(t.drop x).2=false/\(t.offer<0\/t.offer≠x)\/(t.drop x).1=t.bG/\(t.drop x).2=true/\t.offer=x):=by
 unfold Tok.drop;split
 ·rename_i h;exact⟨rfl,rfl,rfl,rfl,.inl ⟨rfl,rfl,h⟩⟩
 ·rename_i h;refine⟨rfl,rfl,rfl,rfl,.inr ⟨rfl,rfl,?_⟩⟩;by_cases hx:t.offer=x
  ·exact hx
  ·exact absurd (.inr hx) h
theorem zC (C:Crypt) (s:Scene) (x:Int):∃hd,(s.leave C x).c={s.c with q:=Q.drop s.c.q x,t:=(s.c.t.drop x).1,head:=hd}:=by
 unfold Scene.leave;dsimp only;rcases(qy s.c.t x).2.2.2.2 with⟨h1,h2,_⟩|⟨h1,h2,_⟩
 ·rw[if_pos h2,h1];exact⟨s.c.head,rfl⟩
 ·rw[if_neg (by rw[h2];simp)];refine⟨C.next s.c.head ⟨12,x,0,(s.c.t.drop x).1.epoch,16,0⟩,?_⟩;rw[show∀(y:Scene) (k a n e w:Int),(y.record C k a n e w).c={y.c with head:=C.next y.c.head ⟨k,a,n,y.c.t.epoch,e,w⟩}from λ_ _ _ _ _ _=>rfl];simp only[Scene.gone_c]
theorem sV {x:Int} (hx:1<=x/\x<=3) (he:0<=s.c.t.epoch/\s.c.t.epoch<=65535):Quiet C b s (s.leave C x):=by
 unfold Scene.leave;dsimp only;have q0:Quiet C b s ({s with c:={s.c with q:=Q.drop s.c.q x}}:Scene):=Scene.aR rfl rfl rfl rfl;have hd:=qy s.c.t x;split
 ·exact q0
 ·refine q0.trans (Quiet.trans (t:=({s with c:={s.c with q:=Q.drop s.c.q x,t:=(s.c.t.drop x).1}}:Scene)) (Scene.aR hd.1 hd.2.1 rfl rfl) ?_);refine Quiet.trans (Scene.fE (Scene.jI (by omega) (by simp))) (Scene.bS (by simp) ?_);have e:(({s with c:={s.c with q:=Q.drop s.c.q x,t:=(s.c.t.drop x).1}}:Scene).hear (s.c.t.drop x).1.holder {kind:=136,jB:=x,code:=16}).c.t.epoch=s.c.t.epoch:=by
   rw[Scene.hear_c];exact hd.2.1
  constructor<;>first|(dsimp only;rw[e];exact he)|(simp;done)|(simp;omega)
theorem Inv.leave {T:Tab} {x:Int} (h:Inv {s.c with tab:=T}):Inv {(s.leave C x).c with tab:=T}/\(s.leave C x).c.tab=s.c.tab/\(s.leave C x).c.p=s.c.p/\
 (s.leave C x).c.q=Q.drop s.c.q x/\(s.leave C x).c.t.offer≠x/\((s.leave C x).c.t.offer=s.c.t.offer\/(s.leave C x).c.t.offer=-1)/\(s.leave C x).c.t.holder=s.c.t.holder\/x<0:=by
 by_cases hx:x<0
 ·exact .inr hx
 refine .inl ?_;obtain⟨hd,e⟩:=zC C s x;have hdr:=qy s.c.t x;rw[e];refine⟨?_,rfl,rfl,rfl,?_,?_,hdr.1⟩
 ·have ht:iB s.c.p T (s.c.t.drop x).1:=by
   rcases hdr.2.2.2.2 with⟨h1,_,_⟩|⟨h1,_,_⟩
   ·rw[h1];exact h.tok
   ·rw[h1];exact⟨h.tok.holder,h.tok.epoch,.inl rfl,h.tok.lost⟩
  exact⟨h.p,ht,h.q.drop x (λa ha _=>by show a.source≠(s.c.t.drop x).1.holder;rw[hdr.1];exact(h.q.each a ha).2.2.2.2.1),h.tab,h.samples,h.mode,h.doors⟩
 ·show(s.c.t.drop x).1.offer≠x;rcases hdr.2.2.2.2 with⟨h1,_,h2⟩|⟨h1,_,_⟩
  ·rw[h1];omega
  ·rw[h1];simp[Tok.bG];omega
 ·show(s.c.t.drop x).1.offer=s.c.t.offer\/(s.c.t.drop x).1.offer=-1;rcases hdr.2.2.2.2 with⟨h1,_,h2⟩|⟨h1,_,_⟩
  ·rw[h1];exact .inl rfl
  ·rw[h1];exact .inr rfl
theorem Inv.rW {c:Core} {T:Tab} (h:Inv {c with tab:=T}) (e:c.tab=T):Inv c:=by subst e;exact h
theorem Inv.Hk {c:Core} {T T':Tab} (h:Inv {c with tab:=T}) (ht:xk c.p T') (hq:∀a∈c.q,T'.on a.source=true) (ho:0<=c.t.offer->T'.on c.t.offer=true):Inv {c with tab:=T'}:=
 ⟨h.p,⟨h.tok.holder,h.tok.epoch,h.tok.offer.imp id (λ⟨a,b,d,_,f⟩=>⟨a,b,d,ho (Int.le_trans (by decide) a),f⟩),h.tok.lost⟩,
  ⟨λa ha=>⟨(h.q.each a ha).1,(h.q.each a ha).2.1,(h.q.each a ha).2.2.1,hq a ha,(h.q.each a ha).2.2.2.2⟩,h.q.sorted,h.q.len⟩,ht,h.samples,h.mode,h.doors⟩
theorem EM {t:Tab} {i:Nat} {x:bu} {u:Int} (hu:u.toNat-1≠i):(t.fe i x).on u=t.on u:=by
 simp[Tab.on,Tab.fw,Tab.fe,hu]
theorem lW {t:Tab} {u:Int} {i:Nat} {x:bu} (h:t.on u=true) (hx:x.on=true):(t.fe i x).on u=true:=by
 unfold Tab.on Tab.fw Tab.fe at*;split at h
 ·rename_i h1;rw[if_pos h1]
 ·rename_i h1;rw[if_neg h1];split at h
  ·rename_i h2;rw[if_pos h2];exact h
  ·rename_i h2;rw[if_neg h2];simp only[Bool.and_eq_true]at h⊢;refine⟨h.1,?_⟩;split
   ·exact hx
   ·exact h.2
theorem Jw {p:Pol} {t:Tab} (h:xk p t) (l:Int):xk p (t.end_ l):=by
 unfold Tab.end_;split
 ·refine⟨h.aF,λi hi tp=>?_⟩;unfold Tab.fe at*;dsimp only at*;split at tp
  ·cases tp
  ·rename_i fc;rw[if_neg fc];exact h.aE i hi tp
 ·exact h
theorem NN {t:Tab} {l u:Int} (hl:1<=l/\l<=3) (hu:u≠l) (h:t.on u=true):(t.end_ l).on u=true:=by
 unfold Tab.end_;split
 ·by_cases h1:u=4
  ·simp[Tab.on,h1]
  by_cases h2:u=0
  ·subst h2;simpa[Tab.on,Tab.fe]using h
  have h3:1<=u/\u<=3:=by
   unfold Tab.on Tab.fw at h;rw[if_neg h1,if_neg h2]at h;simp at h;exact h.1
  rw[EM (by omega)];exact h
 ·exact h
theorem T0 (h:Inv s.c) (hl:1<=l/\l<=3) (hm:uZ m):nV C b s (s.WJ C l m) 0 l:=by
 have e0:=h.eH;unfold Scene.WJ;refine iH ?_ hl hm.seq;have hq:Quiet C b s ((({s with c:={s.c with tab:=s.c.tab.end_ l}}:Scene).leave C l)):=
  Quiet.trans (t:=({s with c:={s.c with tab:=s.c.tab.end_ l}}:Scene)) (Scene.aR rfl rfl rfl rfl) (sV hl e0)
 have hs:=hm.seq;refine .cH ?_ (hq.trans (Scene.bS (by simp) ?_))
 ·refine Inv.record ?_ ..;rcases Inv.leave (C:=C) (s:=({s with c:={s.c with tab:=s.c.tab.end_ l}}:Scene)) (T:=s.c.tab) (x:=l) h with⟨h1,h2,h3,h4,h5,h6,h7⟩|hx
  ·refine Inv.rW (T:=s.c.tab.end_ l) (Inv.Hk h1 (T':=s.c.tab.end_ l) (by simpa[h3]using Jw h.tab l) ?_ ?_) h2
   ·intro a ha;have R_:a∈Q.drop s.c.q l:=by simpa[h4]using ha
    simp only[Q.drop,List.mem_filter,decide_eq_true_eq]at R_;exact NN hl R_.2 (h.q.each a R_.1).2.2.2.1
   ·intro ho;refine NN hl h5 ?_;rcases h6 with h6|h6
    ·rcases h.tok.offer with h9|⟨_,_,_,h9,_⟩
     ·simp at ho h6;omega
     ·simpa[h6]using h9
    ·simp[h6]at ho
  ·omega
 ·have e1:=hq.epoch;constructor<;>first|(dsimp only;rw[e1];exact e0)|(simp;done)|(simp;omega)
theorem ahd {X:Scene} {r:Reply} {k a n e w:Int} (h:Quiet C b s X) (ht:Hj (l,r)) (hk:k≠8) (hb:EH b ⟨k,a,n,X.c.t.epoch,e,w⟩):Quiet C b s ((X.tell l r).record C k a n e w):=
 h.trans (Quiet.trans (Scene.jH ht) (Scene.bS hk hb))
structure nE (C:Crypt):Prop where
 ae:∀k s n j,0<=C.ae k s n j/\C.ae k s n j<=255
 take:∀n f m,C.take n f=some m->uZ m
 n9:∀w n,0<=w.high/\w.high<=4294967295->0<=n/\n<=4294967295->0<=(C.n9 w n).high/\(C.n9 w n).high<=4294967295
theorem Cd {d:Nat->dX} (h:Inv s.c) (hd:∀i,i<3->0<=(d i).many):Inv ({s.c with doors:=d}:Core)/\Quiet C b s ({s with c:={s.c with doors:=d}}:Scene):=
 ⟨⟨h.p,h.tok,h.q,h.tab,h.samples,h.mode,hd⟩,Scene.aR rfl rfl rfl rfl⟩
theorem xG {n:Nat} {f:Byt} (hC:nE C) (h:Inv s.c) (hl:1<=l/\l<=3):nV C b s (s.kW C l n f) 0 l:=by
 have e0:=h.eH;unfold Scene.kW;split
 ·exact jJ h hl (λ_=>by omega)
 rename_i m hm;split
 ·exact eU h hl (by omega) (by omega)
 dsimp only;split
 ·exact eU h hl (by omega) (by omega)
 have hd:=h.doors (l.toNat-1) (by omega);obtain⟨i1,q1⟩:=Cd (C:=C) (b:=b) h (d:=λj=>if j=l.toNat-1 then⟨(s.c.doors (l.toNat-1)).many+1,true,C.ae (s.c.p.k 3) l ((s.c.doors (l.toNat-1)).many+1)⟩else s.c.doors j)
  (λi hi=>by split<;>first|(dsimp only;omega)|exact h.doors i hi)
 refine .cH (Inv.head i1 _) (q1.trans (Quiet.trans (Scene.jH ⟨hl,Scene.B9 (hC.ae (s.c.p.k 3) l ((s.c.doors (l.toNat-1)).many+1))⟩) ?_));exact Scene.bS (by simp) (by constructor<;>simp<;>omega)
theorem NO {p:Pol} {t:Tab} {s r:Int} {k:Byt} (h:(Tab.bw p t s r k).2=0):
 (Tab.bw p t s r k).1=t.fe (s.toNat-1) ⟨true,.start p.bU,r,k,⟨false,0,0⟩⟩/\1<=s/\s<=3/\0<=r/\r<=3:=by
 unfold Tab.bw at*;split at h
 ·simp at h
 split at h
 ·simp at h
 rename_i h1 h2;rw[if_neg h1,if_neg h2];exact⟨rfl,by omega,by omega,by omega,by omega⟩
theorem EO (p:Pol) (t:Tab) (s r:Int) (k:Byt):0<=(Tab.bw p t s r k).2/\(Tab.bw p t s r k).2<=19:=by
 unfold Tab.bw;repeat' split
 all_goals simp
theorem Inv.fe {c:Core} (h:Inv c) {i:Nat} {x:bu} (hx:x.on=true) (YF:x.aP.most=c.p.bU/\0<=x.aP.n/\x.aP.n<c.p.bU/\0<=x.role/\x.role<=3/\0<=x.seen.high/\x.seen.high<=4294967295):Inv {c with tab:=c.tab.fe i x}:=by
 refine Inv.Hk (T:=c.tab) h ?_ (λa ha=>lW (h.q.each a ha).2.2.2.1 hx) (λho=>?_)
 ·refine⟨h.tab.aF,λj hj tp=>?_⟩;unfold Tab.fe at*;dsimp only at*;split at tp
  ·rename_i e;rw[if_pos e];exact YF
  ·rename_i e;rw[if_neg e];exact h.tab.aE j hj tp
 ·rcases h.tok.offer with h1|⟨_,_,_,h1,_⟩
  ·omega
  ·exact lW h1 hx
theorem xH {n:Nat} {f:Byt} (hC:nE C) (h:Inv s.c) (hl:1<=l/\l<=3):nV C b s (s.prove C l n f) 0 l:=by
 have e0:=h.eH;unfold Scene.prove;split
 ·exact jJ h hl (λ_=>by omega)
 split
 ·exact jJ h hl (λ_=>by omega)
 rename_i m hm;have hmb:=hC.take _ _ _ hm;dsimp only;split
 ·exact eU h hl (by omega) (by omega)
 have hd:=h.doors (l.toNat-1) (by omega);obtain⟨i1,q1⟩:=Cd (C:=C) (b:=b) h (d:=λj=>if j=l.toNat-1 then⟨(s.c.doors (l.toNat-1)).many,false,λ_=>0⟩else s.c.doors j)
  (λi hi=>by split<;>first|(dsimp only;omega)|exact h.doors i hi)
 split
 ·exact⟨i1.head _,.inl (q1.trans (qu (s:=⟨_,_,_⟩) i1 hl (λ_=>by omega)))⟩
 split
 ·exact⟨i1.head _,.inl (q1.trans (lV (s:=⟨_,_,_⟩) i1 hl (by omega) (by omega)))⟩
 split
 ·have h2:=EO s.c.p s.c.tab l m.role (C.key (s.c.p.k (l.toNat-1)) l m.role (s.c.doors (l.toNat-1)).ae);exact⟨i1.head _,.inl (q1.trans (lV (s:=⟨_,_,_⟩) i1 hl (by omega) ⟨h2.1,Int.le_trans h2.2 (by decide)⟩))⟩
 rename_i hz;obtain⟨g1,g2,g3,g4,g5⟩:=NO (by simpa using hz);have hb:=h.p.bU;have i2:=Inv.fe (c:={s.c with doors:=_}) i1 (i:=l.toNat-1) (x:=⟨true,.start s.c.p.bU,m.role,C.key (s.c.p.k (l.toNat-1)) l m.role (s.c.doors (l.toNat-1)).ae,⟨false,0,0⟩⟩) rfl
  ⟨by simp[Timer.start];omega,by simp[Timer.start],by simp[Timer.start];omega,g4,g5,by simp,by simp⟩
 have hh:=h.tok.holder;rw[g1];refine .cH (Inv.head i2 _) (ahd (q1.trans (Scene.aR rfl rfl rfl rfl)) ⟨hl,Scene.wZ ⟨g4,g5⟩ hh e0⟩ (by simp) ?_);constructor<;>simp<;>omega
theorem zE {p:Pol} {t t':Tab} {l:Int} {n:Nat} {f:Byt} {m:dw} (hC:nE C) (h:Tab.take C p t l n f=(t',.ok m)):
 t.fw l=true/\uZ m/\m.kind≠1/\m.kind≠2/\
 t'=t.fe (l.toNat-1) {(t.aE (l.toNat-1))with seen:=C.n9 (t.aE (l.toNat-1)).seen m.seq,on:=true,aP:=.start p.bU}:=by
 unfold Tab.take at h;split at h
 ·simp at h
 rename_i h1;split at h
 ·simp at h
 split at h
 ·simp at h
 rename_i m' hm;split at h
 ·simp at h
 split at h
 ·simp at h
 rename_i h2 h3;simp at h;obtain⟨rfl,rfl⟩:=h;exact⟨by simpa using h1,hC.take _ _ _ hm,by omega,by omega,rfl⟩
theorem qz {p:Pol} {t t':Tab} {l:Int} {n:Nat} {f:Byt} {e:Int} (h:Tab.take C p t l n f=(t',.error e)):13<=e/\e<=16:=by
 unfold Tab.take at h;split at h
 ·simp at h;omega
 split at h
 ·simp at h;omega
 split at h
 ·simp at h;omega
 split at h
 ·simp at h;omega
 split at h
 ·simp at h;omega
 ·simp at h
theorem Hl (h:Inv s.c) (hl:1<=l/\l<=3) (hm:uZ m) (tp:s.c.tab.on l=true) (h1:m.kind≠1) (h2:m.kind≠2):nV C b s (s.wO C l m) 0 l:=by
 have hk:=hm.kind;unfold Scene.wO;split
 ·exact iH (.cH h (Quiet.refl ..)) hl hm.seq
 split
 ·exact T0 h hl hm
 split
 ·exact TZ h hl hm tp
 split
 ·exact Jt h hl hm
 split
 ·exact EK h hl hm
 split
 ·exact NL h hl hm
 split
 ·exact Cb h hl hm
 split
 ·exact Cc h hl hm
 ·omega
theorem zF {t:Tab} {l:Int} (hl:1<=l/\l<=3):t.on l=t.fw l:=by
 unfold Tab.on;rw[if_neg (by omega),if_neg (by omega)]
theorem nV.rW {t:Scene} {T:Tab} {kind link:Int} (k:nV C b ({s with c:={s.c with tab:=T}}:Scene) t kind link):nV C b s t kind link:=
 ⟨k.inv,by
  rcases k.NK with q|⟨how,g,w⟩
  ·refine .inl (Quiet.trans ?_ q);exact Scene.aR rfl rfl rfl rfl
  ·refine .inr ⟨how,Quiet.goes ?_ g,w⟩;exact Scene.aR rfl rfl rfl rfl⟩
theorem Ce {n:Nat} {f:Byt} {code:Int} (hC:nE C) (h:Inv s.c) (hl:1<=l/\l<=3) (hb:b->0<=code/\code<=255):nV C b s (s.item C l code n f) 0 l:=by
 unfold Scene.item;split
 ·exact jJ h hl hb
 split
 ·exact xG hC h hl
 split
 ·exact xH hC h hl
 split
 ·rename_i t e he;have:=qz he;exact jJ h hl (λ_=>by omega)
 ·rename_i t m he;obtain⟨g1,g2,g3,g4,g5⟩:=zE hC he;have hb:=h.p.bU;have g1':s.c.tab.on l=true:=by rw[zF hl];exact g1
  have i1:=h.fe (i:=l.toNat-1) (x:={(s.c.tab.aE (l.toNat-1))with seen:=C.n9 (s.c.tab.aE (l.toNat-1)).seen m.seq,on:=true,aP:=.start s.c.p.bU}) rfl
   (by
    have tp:(s.c.tab.aE (l.toNat-1)).on=true:=by unfold Tab.fw at g1;simp at g1;exact g1.2
    have:=h.tab.aE (l.toNat-1) (by omega) tp;have h9:=hC.n9 (s.c.tab.aE (l.toNat-1)).seen m.seq ⟨by omega,by omega⟩ g2.seq;simp[Timer.start];omega)
  subst g5;exact nV.rW (Hl (s:=⟨{s.c with tab:=_},s.sent,s.recs⟩) i1 hl g2 (lW g1' rfl) g3 g4)
end Sd
namespace Go.Proofs.YtlkpikfddnjilaaGreatDoor
open Go Go.RowKit Go.BigFrame Sx
theorem u7 (x y:Int) (hx:0<=x/\x<2^56) (hy:0<=y/\y<256):bits .or .u64 (u64.wrap (x*2^8)) y=x*256+y:=by
 have hw:u64.wrap (x*2^8)=x*256:=by rw[IntKind.wrap_u64];omega
 rw[hw];obtain⟨a,rfl⟩:∃a:Nat,x=a:=⟨x.toNat,by omega⟩;obtain⟨b,rfl⟩:∃b:Nat,y=b:=⟨y.toNat,by omega⟩;have ha:a<2^56:=by omega
 have hb:b<256:=by omega
 unfold bits;have h1:(BitVec.ofInt 64 ((a:Int)*256)).toNat=a*256:=by simp only[BitVec.toNat_ofInt];omega
 have h2:(BitVec.ofInt 64 (b:Int)).toNat=b:=by simp only[BitVec.toNat_ofInt];omega
 have h3:(a*256|||b)=a*256+b:=by
  have:=Nat.shiftLeft_add_eq_or_of_lt (i:=8) (b:=b) (by omega) a;rw[Nat.shiftLeft_eq]at this;exact this.symm
 show u64.wrap (((BitVec.ofInt 64 ((a:Int)*256)|||BitVec.ofInt 64 (b:Int)).toNat:Nat):Int)=_;rw[BitVec.toNat_or,h1,h2,h3,IntKind.wrap_u64];omega
theorem Z3 (y:Int) (hy:0<=y/\y<256):bits .or .u64 0 y=y:=by
 have h:=u7 0 y (by omega) hy;rw[show u64.wrap (0*2^8)=0 from by decide]at h;rw[h];omega
def tk1 (f:Nat->Int):Int:=f 0
def pd (f:Nat->Int):Int:=f 0*256+f 1
def Z4 (f:Nat->Int):Int:=((f 0*256+f 1)*256+f 2)*256+f 3
def By (f:Nat->Int):Prop:=∀j,0<=f j/\f j<=255
theorem Z5 {f:Nat->Int} (h:By f):0<=tk1 f/\tk1 f<=255:=h 0
theorem NP {f:Nat->Int} (h:By f):0<=pd f/\pd f<=65535:=by have:=h 0;have:=h 1;unfold pd;omega
theorem Z6 {f:Nat->Int} (h:By f):0<=Z4 f/\Z4 f<=4294967295:=by have:=h 0;have:=h 1;have:=h 2;have:=h 3;unfold Z4;omega
def Xj (x:Int):Int:=if 32767<x then x-65536 else x
theorem T2 (b o c:Nat) (f:Nat->Int) (hf:By f) (w:World) (hB:fK w b o 1 f):
 au prog 125 #[.slice (some ⟨b,o,none⟩) 1 c] w λv w1=>v=.tuple #[.int .u64 (tk1 f),.int .i64 0]/\Ch [] w w1:=by
 have S0:=St.nil [] w;refine aZ Tryz.func125 rfl ?_;refine af (ah ?_);refine aa (.int .u64 0) ?_;refine aa (.int .i64 0) ?_;refine ag (ab (af (af (ah ?_))));refine ay ?_;refine aa (.int .i64 1) ?_;refine aa (.bool false) ?_;refine ag (ab (cS ?_));refine wp_skip (ab (af (ah ?_)));refine aa (.int .u64 0) ?_;refine ag (ab (af (af (ah ?_))));refine ay ?_;refine aa (.int .i64 1) ?_;refine aa (.int .i64 0) ?_;refine ag (ab (wp_block (kO 24 (af (ah ?_)))));refine aa (.bool true) ?_;refine ag (ab (af (cw ?_)));refine wp_skip (ab (af (wp_block (af (ah ?_)))));refine aa (.int .i64 0) ?_;refine aa (.int .i64 0) ?_;refine ag (ab (ah ?_));refine aa (.int .u64 0) ?_;refine aa (.int .u64 0) ?_;refine ay ?_;refine aa (.int .i64 0) ?_;refine l_ (e:=5) b o 0 1 1 c .i64 0 (by omega) (by omega) (by omega) ?_;refine kp b o 1 (o+0*1) 0 f (St.eK S0 hB (by simp)) (by omega) (by omega) ?_;have zh1:=hf 0;refine FV .u64 (f 0) (IntWalk.u64_in _ (by omega)) ?_;refine cU (.int .u64 (bits .or .u64 0 (f 0))) (.int .u64 (f 0)) (congrArg _ (Z3 (f 0) (by omega))) ?_;refine aa (.int .u64 (f 0)) ?_;refine ag (cN (ab (ah ?_)));refine aa (.int .i64 1) ?_;refine aa (.int .i64 1) ?_;refine ag (cE (af (ah ?_)));refine aa (.bool false) ?_;refine ag (ab (af (cS ?_)));refine wp_exit (cv (cv (iy (ab (af (ah ?_))))));refine aa (.int .u64 (f 0)) ?_;refine aa (.int .u64 (f 0)) ?_;refine aa (.int .i64 0) ?_;refine ag (ab (wp_ret ?_));refine dk rfl (cZ [.tmp 2,.tmp 3] [.int .u64 (f 0),.int .i64 0] (.tuple #[.int .u64 (f 0),.int .i64 0]) ⟨aD,aD,trivial⟩) ?_;exact⟨rfl,S0.ch⟩
theorem Hm (b o c:Nat) (f:Nat->Int) (hf:By f) (w:World) (hB:fK w b o 2 f):
 au prog 125 #[.slice (some ⟨b,o,none⟩) 2 c] w λv w1=>v=.tuple #[.int .u64 (pd f),.int .i64 0]/\Ch [] w w1:=by
 have S0:=St.nil [] w;refine aZ Tryz.func125 rfl ?_;refine af (ah ?_);refine aa (.int .u64 0) ?_;refine aa (.int .i64 0) ?_;refine ag (ab (af (af (ah ?_))));refine ay ?_;refine aa (.int .i64 2) ?_;refine aa (.bool false) ?_;refine ag (ab (cS ?_));refine wp_skip (ab (af (ah ?_)));refine aa (.int .u64 0) ?_;refine ag (ab (af (af (ah ?_))));refine ay ?_;refine aa (.int .i64 2) ?_;refine aa (.int .i64 0) ?_;refine ag (ab (wp_block (kO 24 (af (ah ?_)))));refine aa (.bool true) ?_;refine ag (ab (af (cw ?_)));refine wp_skip (ab (af (wp_block (af (ah ?_)))));refine aa (.int .i64 0) ?_;refine aa (.int .i64 0) ?_;refine ag (ab (ah ?_));refine aa (.int .u64 0) ?_;refine aa (.int .u64 0) ?_;refine ay ?_;refine aa (.int .i64 0) ?_;refine l_ (e:=5) b o 0 2 1 c .i64 0 (by omega) (by omega) (by omega) ?_;refine kp b o 2 (o+0*1) 0 f (St.eK S0 hB (by simp)) (by omega) (by omega) ?_;have zh1:=hf 0;refine FV .u64 (f 0) (IntWalk.u64_in _ (by omega)) ?_;refine cU (.int .u64 (bits .or .u64 0 (f 0))) (.int .u64 (f 0)) (congrArg _ (Z3 (f 0) (by omega))) ?_;refine aa (.int .u64 (f 0)) ?_;refine ag (cN (ab (ah ?_)));refine aa (.int .i64 1) ?_;refine aa (.int .i64 1) ?_;refine ag (cE (af (ah ?_)));refine aa (.bool true) ?_;refine ag (ab (af (cw ?_)));refine wp_skip (ab (af (wp_block (af (ah ?_)))));refine aa (.int .i64 1) ?_;refine aa (.int .i64 1) ?_;refine ag (ab (ah ?_));refine aa (.int .u64 (f 0)) ?_;refine aa (.int .u64 (u64.wrap ((f 0)*2^8))) ?_;refine ay ?_;refine aa (.int .i64 1) ?_;refine l_ (e:=5) b o 1 2 1 c .i64 1 (by omega) (by omega) (by omega) ?_;refine kp b o 2 (o+1*1) 1 f (St.eK S0 hB (by simp)) (by omega) (by omega) ?_;have zh2:=hf 1;refine FV .u64 (f 1) (IntWalk.u64_in _ (by omega)) ?_;refine cU (.int .u64 (bits .or .u64 (u64.wrap ((f 0)*2^8)) (f 1))) (.int .u64 ((f 0)*256+(f 1))) (congrArg _ (u7 (f 0) (f 1) (by omega) (by omega))) ?_;refine av ?_;refine ag (cN (ab (ah ?_)));refine aa (.int .i64 2) ?_;refine aa (.int .i64 2) ?_;refine ag (cE (af (ah ?_)));refine aa (.bool false) ?_;refine ag (ab (af (cS ?_)));refine wp_exit (cv (cv (iy (ab (af (ah ?_))))));refine ay ?_;refine av ?_;refine aa (.int .i64 0) ?_;refine ag (ab (wp_ret ?_));refine dk rfl (cZ [.tmp 2,.tmp 3] [.int .u64 ((f 0)*256+(f 1)),.int .i64 0] (.tuple #[.int .u64 ((f 0)*256+(f 1)),.int .i64 0]) ⟨aD,aD,trivial⟩) ?_;exact⟨rfl,S0.ch⟩
theorem T4 (b o c:Nat) (f:Nat->Int) (hf:By f) (w:World) (hB:fK w b o 4 f):
 au prog 125 #[.slice (some ⟨b,o,none⟩) 4 c] w λv w1=>v=.tuple #[.int .u64 (Z4 f),.int .i64 0]/\Ch [] w w1:=by
 have S0:=St.nil [] w;refine aZ Tryz.func125 rfl ?_;refine af (ah ?_);refine aa (.int .u64 0) ?_;refine aa (.int .i64 0) ?_;refine ag (ab (af (af (ah ?_))));refine ay ?_;refine aa (.int .i64 4) ?_;refine aa (.bool false) ?_;refine ag (ab (cS ?_));refine wp_skip (ab (af (ah ?_)));refine aa (.int .u64 0) ?_;refine ag (ab (af (af (ah ?_))));refine ay ?_;refine aa (.int .i64 4) ?_;refine aa (.int .i64 0) ?_;refine ag (ab (wp_block (kO 24 (af (ah ?_)))));refine aa (.bool true) ?_;refine ag (ab (af (cw ?_)));refine wp_skip (ab (af (wp_block (af (ah ?_)))));refine aa (.int .i64 0) ?_;refine aa (.int .i64 0) ?_;refine ag (ab (ah ?_));refine aa (.int .u64 0) ?_;refine aa (.int .u64 0) ?_;refine ay ?_;refine aa (.int .i64 0) ?_;refine l_ (e:=5) b o 0 4 1 c .i64 0 (by omega) (by omega) (by omega) ?_;refine kp b o 4 (o+0*1) 0 f (St.eK S0 hB (by simp)) (by omega) (by omega) ?_;have zh1:=hf 0;refine FV .u64 (f 0) (IntWalk.u64_in _ (by omega)) ?_;refine cU (.int .u64 (bits .or .u64 0 (f 0))) (.int .u64 (f 0)) (congrArg _ (Z3 (f 0) (by omega))) ?_;refine aa (.int .u64 (f 0)) ?_;refine ag (cN (ab (ah ?_)));refine aa (.int .i64 1) ?_;refine aa (.int .i64 1) ?_;refine ag (cE (af (ah ?_)));refine aa (.bool true) ?_;refine ag (ab (af (cw ?_)));refine wp_skip (ab (af (wp_block (af (ah ?_)))));refine aa (.int .i64 1) ?_;refine aa (.int .i64 1) ?_;refine ag (ab (ah ?_));refine aa (.int .u64 (f 0)) ?_;refine aa (.int .u64 (u64.wrap ((f 0)*2^8))) ?_;refine ay ?_;refine aa (.int .i64 1) ?_;refine l_ (e:=5) b o 1 4 1 c .i64 1 (by omega) (by omega) (by omega) ?_;refine kp b o 4 (o+1*1) 1 f (St.eK S0 hB (by simp)) (by omega) (by omega) ?_;have zh2:=hf 1;refine FV .u64 (f 1) (IntWalk.u64_in _ (by omega)) ?_;refine cU (.int .u64 (bits .or .u64 (u64.wrap ((f 0)*2^8)) (f 1))) (.int .u64 ((f 0)*256+(f 1))) (congrArg _ (u7 (f 0) (f 1) (by omega) (by omega))) ?_;refine av ?_;refine ag (cN (ab (ah ?_)));refine aa (.int .i64 2) ?_;refine aa (.int .i64 2) ?_;refine ag (cE (af (ah ?_)));refine aa (.bool true) ?_;refine ag (ab (af (cw ?_)));refine wp_skip (ab (af (wp_block (af (ah ?_)))));refine aa (.int .i64 2) ?_;refine aa (.int .i64 2) ?_;refine ag (ab (ah ?_));refine ay ?_;refine aa (.int .u64 (u64.wrap (((f 0)*256+(f 1))*2^8))) ?_;refine ay ?_;refine aa (.int .i64 2) ?_;refine l_ (e:=5) b o 2 4 1 c .i64 2 (by omega) (by omega) (by omega) ?_;refine kp b o 4 (o+2*1) 2 f (St.eK S0 hB (by simp)) (by omega) (by omega) ?_;have zh3:=hf 2;refine FV .u64 (f 2) (IntWalk.u64_in _ (by omega)) ?_;refine cU (.int .u64 (bits .or .u64 (u64.wrap (((f 0)*256+(f 1))*2^8)) (f 2))) (.int .u64 (((f 0)*256+(f 1))*256+(f 2))) (congrArg _ (u7 ((f 0)*256+(f 1)) (f 2) (by omega) (by omega))) ?_;refine av ?_;refine ag (cN (ab (ah ?_)));refine aa (.int .i64 3) ?_;refine aa (.int .i64 3) ?_;refine ag (cE (af (ah ?_)));refine aa (.bool true) ?_;refine ag (ab (af (cw ?_)));refine wp_skip (ab (af (wp_block (af (ah ?_)))));refine aa (.int .i64 3) ?_;refine aa (.int .i64 3) ?_;refine ag (ab (ah ?_));refine ay ?_;refine aa (.int .u64 (u64.wrap ((((f 0)*256+(f 1))*256+(f 2))*2^8))) ?_;refine ay ?_;refine aa (.int .i64 3) ?_;refine l_ (e:=5) b o 3 4 1 c .i64 3 (by omega) (by omega) (by omega) ?_;refine kp b o 4 (o+3*1) 3 f (St.eK S0 hB (by simp)) (by omega) (by omega) ?_;have MN:=hf 3;refine FV .u64 (f 3) (IntWalk.u64_in _ (by omega)) ?_;refine cU (.int .u64 (bits .or .u64 (u64.wrap ((((f 0)*256+(f 1))*256+(f 2))*2^8)) (f 3))) (.int .u64 ((((f 0)*256+(f 1))*256+(f 2))*256+(f 3))) (congrArg _ (u7 (((f 0)*256+(f 1))*256+(f 2)) (f 3) (by omega) (by omega))) ?_;refine av ?_;refine ag (cN (ab (ah ?_)));refine aa (.int .i64 4) ?_;refine aa (.int .i64 4) ?_;refine ag (cE (af (ah ?_)));refine aa (.bool false) ?_;refine ag (ab (af (cS ?_)));refine wp_exit (cv (cv (iy (ab (af (ah ?_))))));refine ay ?_;refine av ?_;refine aa (.int .i64 0) ?_;refine ag (ab (wp_ret ?_));refine dk rfl (cZ [.tmp 2,.tmp 3] [.int .u64 ((((f 0)*256+(f 1))*256+(f 2))*256+(f 3)),.int .i64 0] (.tuple #[.int .u64 ((((f 0)*256+(f 1))*256+(f 2))*256+(f 3)),.int .i64 0]) ⟨aD,aD,trivial⟩) ?_;exact⟨rfl,S0.ch⟩
theorem NQ (b o c:Nat) (f:Nat->Int) (hf:By f) (w:World) (hB:fK w b o 2 f):
 au prog 124 #[.slice (some ⟨b,o,none⟩) 2 c] w λv w1=>v=.tuple #[.int .i64 (Xj (pd f)),.int .i64 0]/\Ch [] w w1:=by
 have S0:=St.nil [] w;refine aZ Tryz.func124 rfl ?_;refine af (ah ?_);refine aa (.int .i64 0) ?_;refine aa (.int .i64 0) ?_;refine ag (ab (af (af (ah ?_))));refine ay ?_;refine aa (.int .i64 2) ?_;refine aa (.bool false) ?_;refine ag (ab (cS ?_));refine wp_skip (ab (af (ah ?_)));refine ay ?_;refine br 125 #[.slice (some ⟨b,o,none⟩) 2 c] ?_;refine(Hm b o c f hf _ (St.eK S0 hB (by simp))).mono ?_;rintro _ zw1 ⟨rfl,zh2⟩;have ec:=S0.quiet zh2;have MN:=NP hf;refine ay ?_;refine aa (.int .u64 (pd f)) ?_;refine aa (.int .i64 0) ?_;refine aa (.int .u64 (pd f)) ?_;refine aa (.int .i64 0) ?_;refine ag (ab (af (af (ah ?_))));refine aa (.int .i64 0) ?_;refine aa (.bool false) ?_;refine ag (ab (cS ?_));refine wp_skip (ab (af (ah ?_)));refine aa (.int .u64 (pd f)) ?_;refine FV .i64 (pd f) (IntWalk.i64_in _ (by omega)) ?_;refine aa (.int .i64 (pd f)) ?_;refine ag (ab (af (af (ah ?_))));refine aa (.int .i64 (pd f)) ?_;refine aa (.bool (decide (32767<(pd f)))) ?_;refine ag (ab ?_);refine a9 (decide (32767<(pd f))) ?_ ?_
 ·intro zh5;have zh6:=DN zh5;refine ah ?_;refine aa (.int .i64 (pd f)) ?_;refine FV .i64 ((pd f)-65536) (IntWalk.i64_in _ (by omega)) ?_;refine av ?_;refine ag (ab (af (ah ?_)));refine ay ?_;refine av ?_;refine aa (.int .i64 0) ?_;refine ag (ab (wp_ret ?_));refine dk rfl (cZ [.tmp 2,.tmp 3] [.int .i64 ((pd f)-65536),.int .i64 0] (.tuple #[.int .i64 ((pd f)-65536),.int .i64 0]) ⟨aD,aD,trivial⟩) ?_;have ze:Xj (pd f)=((pd f)-65536):=by unfold Xj;split<;>omega
  exact⟨by(rw[ze])<;>rfl,ec.ch⟩
 intro Ja;have DF:=DO Ja;refine wp_skip (ab (af (ah ?_)));refine aa (.int .i64 (pd f)) ?_;refine aa (.int .i64 (pd f)) ?_;refine aa (.int .i64 0) ?_;refine ag (ab (wp_ret ?_));refine dk rfl (cZ [.tmp 2,.tmp 3] [.int .i64 (pd f),.int .i64 0] (.tuple #[.int .i64 (pd f),.int .i64 0]) ⟨aD,aD,trivial⟩) ?_;have ze:Xj (pd f)=(pd f):=by unfold Xj;split<;>omega
 exact⟨by(rw[ze])<;>rfl,ec.ch⟩
end Go.Proofs.YtlkpikfddnjilaaGreatDoor
