/- Part 13 of the proof. -/
import Derived.Test.YtlkpikfddnjilaaGreatDoorQ12
set_option linter.all false
set_option maxRecDepth 100000
set_option maxHeartbeats 4000000
open Go.Proofs.Tryz
open Go.IntKind (u8 u16 u32 u64 i64)
namespace Sd
structure z6 (C:Crypt) (b:Prop) (s s':Scene) (how:Int):Prop where
 p:s'.c.p=s.c.p
 holder:s'.c.t.holder≠s.c.t.holder
 offer:s'.c.t.offer=-1
 epoch:(s.c.t.epoch<65535/\s'.c.t.epoch=s.c.t.epoch+1)\/(s.c.t.epoch=65535/\s'.c.t.epoch=65535/\how=6)
 recs:∃(pre:List Rec) (n:Int) (post:List Rec),s'.recs=s.recs++(pre++⟨8,s'.c.t.holder,n,s'.c.t.epoch,0,how⟩::post)/\
  (∀r∈pre,r.kind≠8/\r.epoch=s.c.t.epoch/\Fj b r)/\Fj b ⟨8,s'.c.t.holder,n,s'.c.t.epoch,0,how⟩/\
  (∀r∈post,r.kind≠8/\r.epoch=s'.c.t.epoch/\Fj b r)/\
  s'.c.head=(pre++⟨8,s'.c.t.holder,n,s'.c.t.epoch,0,how⟩::post).foldl C.next s.c.head
 sent:∃ts:List (Int×Reply),s'.sent=s.sent++ts/\∀x∈ts,vA x
theorem Quiet.goes {C:Crypt} {b:Prop} {s t u:Scene} {how:Int} (h:Quiet C b s t) (k:z6 C b t u how):z6 C b s u how:=by
 obtain⟨rs,r1,r2,r3⟩:=h.recs;obtain⟨pre,n,post,q1,q2,q3,q4,q5⟩:=k.recs;obtain⟨ts,t1,t2⟩:=h.sent;obtain⟨us,u1,u2⟩:=k.sent;refine⟨k.p.trans h.p,by rw[<-h.holder];exact k.holder,k.offer,by have:=k.epoch;rw[h.epoch]at this;exact this,⟨rs++pre,n,post,by rw[q1,r1];simp,?_,q3,q4,by rw[q5,r3];simp[List.foldl_append]⟩,⟨ts++us,by rw[u1,t1,List.append_assoc],?_⟩⟩
 ·intro r hr;rcases List.mem_append.1 hr with hr|hr
  ·exact r2 r hr
  ·have:=q2 r hr;rw[h.epoch]at this;exact this
 ·intro x hx;rcases List.mem_append.1 hx with hx|hx
  ·exact t2 x hx
  ·exact u2 x hx
theorem z6.quiet {C:Crypt} {b:Prop} {s t u:Scene} {how:Int} (h:z6 C b s t how) (k:Quiet C b t u) (ho:u.c.t.offer=-1):z6 C b s u how:=by
 obtain⟨pre,n,post,q1,q2,q3,q4,q5⟩:=h.recs;obtain⟨rs,r1,r2,r3⟩:=k.recs;obtain⟨ts,t1,t2⟩:=h.sent;obtain⟨us,u1,u2⟩:=k.sent;refine⟨k.p.trans h.p,by rw[k.holder];exact h.holder,ho,by rw[k.epoch];exact h.epoch,⟨pre,n,post++rs,by rw[r1,q1,k.holder,k.epoch];simp,q2,by rw[k.holder,k.epoch];exact q3,?_,by rw[r3,q5,k.holder,k.epoch,<-List.foldl_append];simp⟩,⟨ts++us,by rw[u1,t1,List.append_assoc],?_⟩⟩
 ·intro r hr;rw[k.epoch];rcases List.mem_append.1 hr with hr|hr
  ·exact q4 r hr
  ·exact r2 r hr
 ·intro x hx;rcases List.mem_append.1 hx with hx|hx
  ·exact t2 x hx
  ·exact u2 x hx
namespace Scene
@[simp] theorem goes_t (C:Crypt) (s:Scene) (t:Tok) (h n:Int):(s.goes C t h n).c.t=t:=by simp[goes]
@[simp] theorem goes_p (C:Crypt) (s:Scene) (t:Tok) (h n:Int):(s.goes C t h n).c.p=s.c.p:=by simp[goes]
@[simp] theorem goes_q (C:Crypt) (s:Scene) (t:Tok) (h n:Int):(s.goes C t h n).c.q=Q.drop s.c.q t.holder:=by simp[goes]
@[simp] theorem goes_tab (C:Crypt) (s:Scene) (t:Tok) (h n:Int):(s.goes C t h n).c.tab=s.c.tab:=by simp[goes]
theorem z7 (C:Crypt) (s:Scene) (t:Tok) (h n:Int):∃x,(s.goes C t h n).c={s.c with t:=t,q:=Q.drop s.c.q t.holder,head:=x}:=by
 refine⟨(s.goes C t h n).c.head,?_⟩;simp[goes,record]
theorem Fk {iY e:Int} (h:0<=iY/\iY<=4) (he:0<=e/\e<=65535):jC {kind:=134,iY:=iY,epoch:=e}:=by
 constructor<;>simp<;>omega
theorem CF {e:Int} (he:0<=e/\e<=65535):jC {kind:=133,epoch:=e}:=by
 constructor<;>simp<;>omega
theorem CH {iY e:Int} (h:0<=iY/\iY<=4) (he:0<=e/\e<=65535):jC {kind:=135,iY:=iY,epoch:=e}:=by
 constructor<;>simp<;>omega
theorem jE {iY c:Int} (h:0<=iY/\iY<=4) (hc:0<=c/\c<=255):jC {kind:=136,iY:=iY,code:=c}:=by
 constructor<;>simp<;>omega
theorem O2 {n:Int} (h:0<=n/\n<=4294967295):jC {kind:=131,seq:=n}:=by
 constructor<;>simp<;>omega
theorem Fl {n c:Int} (h:0<=n/\n<=4294967295) (hc:0<=c/\c<=255):jC {kind:=132,seq:=n,code:=c}:=by
 constructor<;>simp<;>omega
theorem xA {r w e:Int} (h:0<=r/\r<=3) (hw:0<=w/\w<=4) (he:0<=e/\e<=65535):jC {kind:=130,role:=r,iY:=w,epoch:=e}:=by
 constructor<;>simp<;>omega
theorem CI {n:Byt} (h:∀j,0<=n j/\n j<=255):jC {kind:=129,ab:=n}:=by
 constructor<;>simp<;>omega
theorem kM {C:Crypt} {b:Prop} {s:Scene} {t:Tok} {how n:Int} (hh:0<=t.holder/\t.holder<=4) (hn:t.holder≠s.c.t.holder) (ho:t.offer=-1)
 (he:(s.c.t.epoch<65535/\t.epoch=s.c.t.epoch+1)\/(s.c.t.epoch=65535/\t.epoch=65535/\how=6)) (hs:0<=s.c.t.epoch)
 (af4:0<=how/\how<=6) (ak8:0<=n/\n<=4294967295):z6 C b s (s.goes C t how n) how:=by
 have et:0<=t.epoch/\t.epoch<=65535:=by omega
 have q2:Quiet C b ({s with c:={s.c with t:=t,q:=Q.drop s.c.q t.holder}}:Scene) ((({s with c:={s.c with t:=t,q:=Q.drop s.c.q t.holder}}:Scene).hear s.c.t.holder {kind:=134,iY:=t.holder,epoch:=t.epoch}).hear t.holder {kind:=133,epoch:=t.epoch}):=
  (fy (Fk hh et)).trans (fy (CF et))
 obtain⟨ts,t1,t2⟩:=q2.sent;exact⟨by simp,by simpa using hn,by simpa using ho,by simpa using he,
  ⟨[],n,[],by simp[goes],by simp,by constructor<;>simp<;>omega,by simp,by simp[goes,record]⟩,
  ⟨ts,by simpa[goes]using t1,t2⟩⟩
end Scene
theorem qz {t:Tok} {bZ:Int} (h:(t.bA bZ).2=0):(t.bA bZ).1=t.pass bZ (t.epoch+1)/\0<=bZ/\bZ<=4/\bZ≠t.holder/\t.epoch<65535:=by
 unfold Tok.bA at*;split at h
 ·simp at h
 ·split at h
  ·simp at h
  ·split at h
   ·simp at h
   ·rename_i a b c;simp[a,b,c];omega
theorem lE (t:Tok) (bZ:Int):0<=(t.bA bZ).2/\(t.bA bZ).2<=25:=by
 unfold Tok.bA;split<;>(try split)<;>(try split)<;>simp
structure vB (m:db):Prop where
 kind:1<=m.kind/\m.kind<=11
 seq:0<=m.seq/\m.seq<=4294967295
 role:0<=m.role/\m.role<=3
 bZ:0<=m.bZ/\m.bZ<=4
 epoch:0<=m.epoch/\m.epoch<=65535
 mode:0<=m.mode/\m.mode<=4
 cls:0<=m.cls/\m.cls<=3
 akF:m.kind=11->1<=m.cls
def ou (Vp now:Core) (kind link how:Int):Prop:=
 (how=1/\kind=0/\Vp.t.offer=now.t.holder/\link=now.t.holder)\/
 (how=2/\kind<2/\(∃a l,Vp.q=a::l/\a.source=now.t.holder)/\(kind=1↔Vp.t.holder=0))\/
 (how=3/\kind=0/\link=now.t.holder/\b9 Vp.p now.t.holder Vp.t.holder=true/\Vp.t.bad=false)\/
 (how=4/\kind=1/\now.t.holder=0)\/
 (how=5/\kind=3/\now.tab.on Vp.t.holder=false/\now.tab.on now.t.holder=true)\/
 (how=6/\now.t.holder=4/\((kind=2/\now.t.bad=true)\/(kind=3/\Vp.t.epoch=65535/\now.tab.on Vp.t.holder=false)))
structure lF (C:Crypt) (b:Prop) (s s':Scene) (kind link:Int):Prop where
 inv:Inv s'.c
 Fm:Quiet C b s s'\/∃how,z6 C b s s' how/\ou s.c s'.c kind link how
theorem lF.cg {C:Crypt} {b:Prop} {s s':Scene} {kind link:Int} (h:Inv s'.c) (q:Quiet C b s s'):lF C b s s' kind link:=⟨h,.inl q⟩
theorem Inv.z_ {c:Core} (h:Inv c) {t:Tok} {q:List Ask} (ht:ig c.p c.tab t) (hq:Jy c.p c.tab t.holder q):Inv {c with t:=t,q:=q}:=
 ⟨h.p,ht,hq,h.tab,h.samples,h.mode,h.doors⟩
theorem Inv.goes {C:Crypt} {s:Scene} (h:Inv s.c) {t:Tok} {how n:Int} (ht:ig s.c.p s.c.tab t):Inv (s.goes C t how n).c:=by
 obtain⟨x,hx⟩:=Scene.z7 C s t how n;rw[hx];exact(h.z_ ht (h.q.drop t.holder (λa _ ha=>ha))).head x
variable{C:Crypt} {b:Prop} {s:Scene} {l:Int} {m:db}
theorem Inv.eC {c:Core} (h:Inv c):0<=c.t.epoch/\c.t.epoch<=65535:=by have:=h.tok.epoch;have:=h.p.epoch;omega
theorem lG {n e:Int} (h:Inv s.c) (hl:1<=l/\l<=3) (hn:0<=n/\n<=4294967295) (he:0<=e/\e<=255):Quiet C b s (s.refuse C l n e):=by
 have:=h.eC;exact(Scene.jD ⟨hl,Scene.Fl hn he⟩).trans (Scene.bO (by simp) (by constructor<;>simp<;>omega))
theorem eK {n e kind link:Int} (h:Inv s.c) (hl:1<=l/\l<=3) (hn:0<=n/\n<=4294967295) (he:0<=e/\e<=255):lF C b s (s.refuse C l n e) kind link:=
 .cg (h.head _) (lG h hl hn he)
theorem qA {e:Int} (h:Inv s.c) (hl:1<=l/\l<=3) (he:b->0<=e/\e<=255):Quiet C b s (s.cW C l e):=by
 have:=h.eC;exact Scene.bO (by simp) (by constructor<;>simp<;>first|omega|exact he)
theorem jF {e kind link:Int} (h:Inv s.c) (hl:1<=l/\l<=3) (he:b->0<=e/\e<=255):lF C b s (s.cW C l e) kind link:=
 .cg (h.head _) (qA h hl he)
theorem vC {n:Int} (hl:1<=l/\l<=3) (hn:0<=n/\n<=4294967295):Quiet C b s (s.done l n):=Scene.jD ⟨hl,Scene.O2 hn⟩
theorem im {t:Scene} {n kind link:Int} (h:lF C b s t kind link) (hl:1<=l/\l<=3) (hn:0<=n/\n<=4294967295):lF C b s (t.done l n) kind link:=
 ⟨h.inv,h.Fm.imp (λq=>q.trans (vC hl hn)) (λ⟨how,g,k⟩=>⟨how,g.quiet (vC hl hn) g.offer,k⟩)⟩
theorem Ku (p:Pol) (t:Tok) (f o:Int) (th:Bool):0<=(t.make p f o th).2/\(t.make p f o th).2<=28:=by
 unfold Tok.make;repeat' split
 all_goals simp
theorem Vq {p:Pol} {t:Tok} {f o:Int} {th:Bool} (h:(t.make p f o th).2=0):
 (t.make p f o th).1={t with offer:=o,oa:=.start p.offer}/\f=t.holder/\t.epoch<65535/\o≠f/\1<=o/\o<=3/\th=true/\t.offer<0:=by
 unfold Tok.make at*;split at h
 ·simp at h
 split at h
 ·simp at h
 split at h
 ·simp at h
 split at h
 ·simp at h
 split at h
 ·simp at h
 rename_i h1 h2 h3 h4 h5;have h6:th=true:=by
  cases th
  ·exact absurd (.inr (.inr rfl)) h4
  ·rfl
 rw[if_neg h1,if_neg h2,if_neg h3,if_neg h4,if_neg h5];exact⟨rfl,by simpa using h1,by omega,h3,by omega,by omega,h6,by omega⟩
theorem CJ (t:Tok) (f e:Int):0<=(t.accept f e).2/\(t.accept f e).2<=28:=by
 unfold Tok.accept;split
 ·simp
 split
 ·simp
 have:=lE t f;omega
theorem Kv {t:Tok} {f e:Int} (h:(t.accept f e).2=0):
 (t.accept f e).1=t.pass f (t.epoch+1)/\t.offer=f/\e=t.epoch/\0<=f/\f<=4/\f≠t.holder/\t.epoch<65535:=by
 unfold Tok.accept at*;split at h
 ·simp at h
 split at h
 ·simp at h
 rename_i h1 h2;obtain⟨g1,g2,g3,g4,g5⟩:=qz h;have h3:t.offer=f:=by
  by_cases hx:t.offer=f
  ·exact hx
  ·exact absurd (.inr hx) h1
 rw[if_neg h1,if_neg h2];exact⟨g1,h3,by simpa using h2,g2,g3,g4,g5⟩
theorem Kw (t:Tok) (f:Int):0<=(t.fb f).2/\(t.fb f).2<=28:=by
 unfold Tok.fb;split<;>simp
theorem Vr {t:Tok} {f:Int} (h:(t.fb f).2=0):(t.fb f).1=t.bG/\t.offer=f:=by
 unfold Tok.fb at*;split at h
 ·simp at h
 rename_i h1;rw[if_neg h1];refine⟨rfl,?_⟩;by_cases hx:t.offer=f
 ·exact hx
 ·exact absurd (.inr hx) h1
theorem Kx (h:Inv s.c) (hl:1<=l/\l<=3) (hm:vB m):lF C b s (s.offer C l m) 0 l:=by
 have he:=h.eC;unfold Scene.offer;dsimp only;split
 ·have:=Ku s.c.p s.c.t l m.bZ (s.c.tab.on m.bZ);exact eK h hl hm.seq (by omega)
 rename_i hz;obtain⟨g1,g2,g3,g4,g5,g6,g7,g8⟩:=Vq (by simpa using hz);rw[g1];refine im ?_ hl hm.seq;have ht:ig s.c.p s.c.tab {s.c.t with offer:=m.bZ,oa:=Timer.start s.c.p.offer}:=
  ⟨h.tok.holder,h.tok.epoch,.inr ⟨g5,g6,by simp;omega,g7,by simp[Timer.start];have:=h.p.offer;omega,by simp[Timer.start],by simp[Timer.start];have:=h.p.offer;omega⟩,h.tok.lost⟩
 refine .cg ?_ ?_
 ·exact Inv.record (Inv.hear (s:=s.aZ _) (h.z_ ht h.q) _ _) ..
 ·have hh:=h.tok.holder;refine Quiet.trans (t:=s.aZ {s.c.t with offer:=m.bZ,oa:=Timer.start s.c.p.offer}) (Scene.aP rfl rfl rfl rfl) ?_;refine Quiet.trans (Scene.fy (Scene.CH (by omega) (by simpa using he))) (Scene.bO (by simp) ?_);have:=hm.seq;constructor<;>simp[Scene.aZ]<;>omega
theorem Fo (h:Inv s.c) (hl:1<=l/\l<=3) (hm:vB m):lF C b s (s.accept C l m) 0 l:=by
 have he:=h.eC;unfold Scene.accept;dsimp only;split
 ·have:=CJ s.c.t l m.epoch;exact eK h hl hm.seq (by omega)
 rename_i hz;obtain⟨g1,g0,ge,g2,g3,g4,g5⟩:=Kv (by simpa using hz);rw[g1];refine im ⟨?_,.inr ⟨1,?_,?_⟩⟩ hl hm.seq
 ·exact h.goes (ig.pass h.p (by omega) (by have:=h.tok.epoch;omega))
 ·exact Scene.kM (by simp[Tok.pass];omega) (by simpa[Tok.pass]using g4) rfl (.inl ⟨g5,rfl⟩) he.1 (by simp) hm.seq
 ·exact .inl ⟨rfl,rfl,by simpa[Tok.pass]using g0,by simp[Tok.pass]⟩
theorem O3 (h:Inv s.c) (hl:1<=l/\l<=3) (hm:vB m):lF C b s (s.fb C l m) 0 l:=by
 have he:=h.eC;unfold Scene.fb;dsimp only;split
 ·have:=Kw s.c.t l;exact eK h hl hm.seq (by omega)
 rename_i hz;obtain⟨g1,g2⟩:=Vr (by simpa using hz);rw[g1];refine im ?_ hl hm.seq;have ht:ig s.c.p s.c.tab s.c.t.bG:=⟨h.tok.holder,h.tok.epoch,.inl rfl,h.tok.lost⟩;refine .cg ?_ ?_
 ·exact Inv.record (Inv.hear (s:=s.aZ _) (h.z_ ht h.q) _ _) ..
 ·refine Quiet.trans (t:=s.aZ s.c.t.bG) (Scene.aP rfl rfl rfl rfl) ?_;refine Quiet.trans (Scene.fy (Scene.jE (by omega) (by simp))) (Scene.bO (by simp) ?_);have:=hm.seq;constructor<;>simp[Scene.aZ,Tok.bG]<;>omega
end Sd
namespace Sd
theorem mem_insert {q:List Ask} {a x:Ask}:x∈Q.insert q a↔x=a\/x∈q:=by
 unfold Q.insert;rw[List.mem_append,List.mem_cons];have:=List.takeWhile_append_dropWhile (p:=λx:Ask=>decide (x.aU<=a.aU)) (l:=q);constructor
 ·rintro(h|h|h)
  ·exact .inr (List.takeWhile_prefix _|>.subset h)
  ·exact .inl h
  ·exact .inr (List.dropWhile_suffix _|>.subset h)
 ·rintro(h|h)
  ·exact .inr (.inl h)
  ·rw[<-this,List.mem_append]at h;rcases h with h|h
   ·exact .inl h
   ·exact .inr (.inr h)
theorem length_insert (q:List Ask) (a:Ask):(Q.insert q a).length=q.length+1:=by
 have:=congrArg List.length (List.takeWhile_append_dropWhile (p:=λx:Ask=>decide (x.aU<=a.aU)) (l:=q));simp only[List.length_append]at this;simp only[Q.insert,List.length_append,List.length_cons];omega
theorem CK (y:Ask) (q:List Ask) (a:Ask):Q.insert (y::q) a=if y.aU<=a.aU then y::Q.insert q a else a::y::q:=by
 unfold Q.insert;simp only[List.takeWhile_cons,List.dropWhile_cons];by_cases h:y.aU<=a.aU<;>simp[h]
theorem insert_sorted {q:List Ask} {a:Ask} (h:q.Pairwise λa b=>a.aU<b.aU) (hn:∀x∈q,x.aU≠a.aU):(Q.insert q a).Pairwise λa b=>a.aU<b.aU:=by
 induction q with
 |nil=>simp[Q.insert]
 |cons y q ih=>
  rw[CK];rw[List.pairwise_cons]at h;have hy:=hn y (by simp);split
  ·rw[List.pairwise_cons];refine⟨λx hx=>?_,ih h.2 (λx hx=>hn x (by simp[hx]))⟩;rcases mem_insert.1 hx with rfl|hx
   ·omega
   ·exact h.1 x hx
  ·rw[List.pairwise_cons,List.pairwise_cons];refine⟨λx hx=>?_,h.1,h.2⟩;rcases List.mem_cons.1 hx with rfl|hx
   ·omega
   ·have:=h.1 x hx;omega
theorem Ky (most:Int) (q:List Ask) (a:Ask):0<=(Q.push most q a).2/\(Q.push most q a).2<=27:=by
 unfold Q.push;repeat' split
 all_goals simp
theorem Vs {most:Int} {q:List Ask} {a:Ask} (h:(Q.push most q a).2=0):(Q.push most q a).1=Q.insert q a/\Q.waits q a.source=false/\(q.length:Int)<most:=by
 unfold Q.push at*;split at h
 ·simp at h
 split at h
 ·simp at h
 rename_i h1 h2;rw[if_neg h1,if_neg h2];exact⟨rfl,by simpa using h1,by omega⟩
theorem Kz {q:List Ask} {s:Int} (h:Q.waits q s=false):∀x∈q,x.source≠s:=by
 intro x hx e;have:Q.waits q s=true:=by unfold Q.waits;rw[List.any_eq_true];exact⟨x,hx,by simp[e]⟩
 rw[this]at h;cases h
theorem Jy.insert {p:Pol} {t:Tab} {h:Int} {q:List Ask} (hp:cJ p) (k:Jy p t h q) {s:Int} (hs:1<=s/\s<=3) (tP:t.on s=true) (hh:s≠h)
 (hw:Q.waits q s=false) (hl:(q.length:Int)<p.queue):Jy p t h (Q.insert q ⟨s,aU p s,.start p.ask⟩) where
 each:=by
  intro a ha;rcases mem_insert.1 ha with rfl|ha
  ·have:=hp.ask;refine⟨rfl,hs.1,hs.2,tP,hh,?_,?_,?_⟩<;>simp[Timer.start]<;>omega
  ·exact k.each a ha
 sorted:=insert_sorted k.sorted (λx hx e=>by
  have h1:=k.each x hx;have h2:=Kz hw x hx;rw[h1.1]at e;exact h2 (xO hp (by omega) (by omega) e))
 len:=by rw[length_insert];omega
theorem O4 {p:Pol} {t:Tok} {most:Int} {q:List Ask} {f:Int} {now:Bool}:0<=(cC p t most q f now).2.2.1/\(cC p t most q f now).2.2.1<=29:=by
 unfold cC;have h1:=lE t f;have h2:=Ky most q ⟨f,aU p f,.start p.ask⟩
 repeat' split
 all_goals first|(simp;done)|(simp;omega)|omega
theorem abF {p:Pol} {t:Tok} {most:Int} {q:List Ask} {f:Int} {now:Bool} (h:(cC p t most q f now).2.2.1=0):
 t.bad=false/\f≠t.holder/\t.epoch<65535/\
 ((cC p t most q f now=(t.pass f (t.epoch+1),3,0,Q.drop q f)/\0<=f/\f<=4/\(t.holder=4\/b9 p f t.holder=true))\/
  (cC p t most q f now=(t,0,0,Q.insert q ⟨f,aU p f,.start p.ask⟩)/\Q.waits q f=false/\(q.length:Int)<most/\t.holder≠4/\now=false)):=by
 unfold cC at*;split at h
 ·simp at h
 split at h
 ·simp at h
 split at h
 ·simp at h
 rename_i h1 h2 h3;rw[if_neg h1,if_neg h2,if_neg h3];refine⟨by simpa using h1,h2,by omega,?_⟩;split at h
 ·rename_i h4;rw[if_pos h4];split at h
  ·rename_i h5;exact absurd h h5
  ·rename_i h5;rw[if_neg h5];obtain⟨g1,g2,g3,g4,g5⟩:=qz (by simpa using h5);exact .inl ⟨by rw[g1],g2,g3,h4.imp id And.right⟩
 ·rename_i h4;rw[if_neg h4];split at h
  ·simp at h
  ·rename_i h5;rw[if_neg h5];obtain⟨g1,g2,g3⟩:=Vs h;refine .inr ⟨?_,g2,g3,λe=>h4 (.inl e),by simpa using h5⟩;rw[g1];exact Prod.ext rfl (Prod.ext rfl (Prod.ext h rfl))
theorem Aa (t:Tok) (q:List Ask):0<=(a9 t q).2.1/\(a9 t q).2.1<=25:=by
 unfold a9;split
 ·simp
 ·rename_i a l;have:=lE t a.source;split<;>first|(simp;done)|(simp;omega)|omega
theorem Fp {t:Tok} {q:List Ask} (h:(a9 t q).2.1=0):
 ∃a l,q=a::l/\a9 t q=(t.pass a.source (t.epoch+1),0,Q.drop q a.source)/\0<=a.source/\a.source<=4/\a.source≠t.holder/\t.epoch<65535:=by
 unfold a9 at*;split at h
 ·simp at h
 ·rename_i a l;split at h
  ·rename_i h5;exact absurd h h5
  ·rename_i h5;obtain⟨g1,g2,g3,g4,g5⟩:=qz (by simpa using h5);refine⟨a,l,rfl,?_,g2,g3,g4,g5⟩;show(if(t.bA a.source).2≠0 then _ else _)=_;rw[if_neg h5,g1]
theorem qB (t:Tok) (q:List Ask) (f:Int):0<=(an t q f).2.1/\(an t q f).2.1<=25:=by
 unfold an;have:=Aa t q
 repeat' split
 all_goals first|(simp;done)|(simp;omega)|omega
theorem vD {t:Tok} {q:List Ask} {f:Int} (h:(an t q f).2.1=0):
 f=t.holder/\∃a l,q=a::l/\an t q f=(t.pass a.source (t.epoch+1),0,Q.drop q a.source)/\0<=a.source/\a.source<=4/\a.source≠t.holder/\t.epoch<65535:=by
 unfold an at*;split at h
 ·simp at h
 split at h
 ·simp at h
 rename_i h1 h2;rw[if_neg h1,if_neg h2];exact⟨by simpa using h1,Fp h⟩
variable{C:Crypt} {b:Prop} {s:Scene} {l:Int} {m:db}
theorem mO {kind link how n f:Int} {q:List Ask} (h:Inv s.c) (hf:0<=f/\f<=4) (hq:∃x,q=Q.drop s.c.q x) (eS:f≠s.c.t.holder) (he:s.c.t.epoch<65535)
 (af4:0<=how/\how<=6) (hn:0<=n/\n<=4294967295)
 (hk:ou s.c (Scene.goes C ({s with c:={s.c with q:=q}}:Scene) (s.c.t.pass f (s.c.t.epoch+1)) how n).c kind link how):
 lF C b s (Scene.goes C ({s with c:={s.c with q:=q}}:Scene) (s.c.t.pass f (s.c.t.epoch+1)) how n) kind link:=by
 have e0:=h.eC;obtain⟨x,rfl⟩:=hq;have h1:Inv ({s.c with q:=Q.drop s.c.q x}:Core):=⟨h.p,h.tok,h.q.drop x (λa ha hx=>(h.q.each a ha).2.2.2.2.1),h.tab,h.samples,h.mode,h.doors⟩;refine⟨?_,.inr ⟨how,?_,hk⟩⟩
 ·exact Inv.goes (s:={s with c:={s.c with q:=Q.drop s.c.q x}}) h1 (ig.pass h.p hf (by have:=h.tok.epoch;omega))
 ·have q0:Quiet C b s ({s with c:={s.c with q:=Q.drop s.c.q x}}:Scene):=Scene.aP rfl rfl rfl rfl;exact q0.goes (Scene.kM (by simp[Tok.pass];omega) (by simpa[Tok.pass]using eS) rfl (.inl ⟨he,rfl⟩) e0.1 af4 hn)
theorem CL (h:Inv s.c) (hl:1<=l/\l<=3) (hm:vB m):lF C b s (s.release C l m) 0 l:=by
 unfold Scene.release;dsimp only;split
 ·have h2:=qB s.c.t s.c.q l;exact eK h hl hm.seq ⟨h2.1,Int.le_trans h2.2 (by decide)⟩
 rename_i hz;obtain⟨g0,a,r,g1,g2,g3,g4,g5,g6⟩:=vD (by simpa using hz);rw[g2];refine im (mO h ⟨g3,g4⟩ ⟨_,rfl⟩ g5 g6 (by simp) hm.seq ?_) hl hm.seq;refine .inr (.inl ⟨rfl,by simp,⟨a,r,g1,by simp[Tok.pass]⟩,?_⟩);simp;omega
theorem Vt (h:Inv s.c) (hl:1<=l/\l<=3) (hm:vB m) (tP:s.c.tab.on l=true):lF C b s (s.ask C l m) 0 l:=by
 have e0:=h.eC;unfold Scene.ask;dsimp only;split
 ·have h2:=@O4 s.c.p s.c.t s.c.p.queue s.c.q l m.now;exact eK h hl hm.seq ⟨h2.1,Int.le_trans h2.2 (by decide)⟩
 rename_i hz;obtain⟨g1,g2,g3,g4⟩:=abF (by simpa using hz);refine im ?_ hl hm.seq;rcases g4 with⟨g4,g5,g6,g7⟩|⟨g4,g5,g6,g7⟩
 ·rw[g4];rw[if_pos (by simp)];refine mO h ⟨g5,g6⟩ ⟨_,rfl⟩ g2 g3 (by simp) hm.seq ?_;refine .inr (.inr (.inl ⟨rfl,rfl,by simp[Tok.pass],?_,g1⟩));simp only[Scene.goes_t,Tok.pass];rcases g7 with g7|g7
  ·rw[g7,Jx h.p (by omega) (by omega)];simpa using Z7 h.p (by omega)
  ·exact g7
 ·rw[g4];rw[if_neg (by simp)];refine .cg ?_ ?_
  ·refine Inv.record (s:=({s with c:={s.c with q:=Q.insert s.c.q ⟨l,aU s.c.p l,Timer.start s.c.p.ask⟩}}:Scene).aZ s.c.t) (h.z_ h.tok ?_) ..;exact h.q.insert h.p hl tP g2 g5 g6
  ·refine Quiet.trans (t:=({s with c:={s.c with q:=Q.insert s.c.q ⟨l,aU s.c.p l,Timer.start s.c.p.ask⟩}}:Scene).aZ s.c.t) (Scene.aP rfl rfl rfl rfl) (Scene.bO (by simp) ?_);have:=hm.seq;constructor<;>simp[Scene.aZ]<;>omega
theorem o_ (p:Pol) (t:Tok) (a r mo:Int) (m:db):0<=iR p t a r mo m/\iR p t a r mo m<=23:=by
 unfold iR;by_cases h1:m.kind≠10/\m.kind≠11
 ·rw[if_pos h1];simp
 rw[if_neg h1];by_cases h2:a≠t.holder
 ·rw[if_pos h2];simp
 rw[if_neg h2];by_cases h3:m.epoch≠t.epoch
 ·rw[if_pos h3];simp
 rw[if_neg h3];by_cases h4:may p mo r (if m.kind=10 then 0 else m.cls)=false
 ·rw[if_pos h4];simp
 rw[if_neg h4];by_cases h5:m.kind=10/\Sd.goes p mo m.mode=false
 ·rw[if_pos h5];simp
 ·rw[if_neg h5];simp
theorem CM (h:Inv s.c) (hl:1<=l/\l<=3) (hm:vB m):lF C b s (s.command C l m) 0 l:=by
 have e0:=h.eC;unfold Scene.command;dsimp only;split
 ·have:=o_ s.c.p s.c.t l (s.c.tab.role l) s.c.mode m;exact eK h hl hm.seq (by omega)
 refine im ?_ hl hm.seq;have:=hm.seq;split
 ·refine .cg (Inv.head (c:={s.c with mode:=m.mode,cA:=_}) ⟨h.p,h.tok,h.q,h.tab,h.samples,hm.mode,h.doors⟩ _) ?_;refine Quiet.trans (t:={s with c:={s.c with mode:=m.mode,cA:=⟨1,l,m.seq⟩}}) (Scene.aP rfl rfl rfl rfl) (Scene.bO (by simp) ?_);constructor<;>simp<;>omega
 ·refine .cg (Inv.head (c:={s.c with pt:=s.c.pt.set s.c.p m.cls m.x ⟨1,l,m.seq⟩}) ⟨h.p,h.tok,h.q,h.tab,h.samples,h.mode,h.doors⟩ _) ?_;refine Quiet.trans (t:={s with c:={s.c with pt:=s.c.pt.set s.c.p m.cls m.x ⟨1,l,m.seq⟩}}) (Scene.aP rfl rfl rfl rfl) (Scene.bO (by simp) ?_);constructor<;>simp<;>omega
end Sd
namespace Sd
variable{C:Crypt} {b:Prop} {s:Scene} {l:Int} {m:db}
theorem qD (t:Tok) (x:Int):(t.drop x).1.holder=t.holder/\(t.drop x).1.epoch=t.epoch/\(t.drop x).1.la=t.la/\(t.drop x).1.bad=t.bad/\
 ((t.drop x).1=t/\(t.drop x).2=false/\(t.offer<0\/t.offer≠x)\/(t.drop x).1=t.bG/\(t.drop x).2=true/\t.offer=x):=by
 unfold Tok.drop;split
 ·rename_i h;exact⟨rfl,rfl,rfl,rfl,.inl ⟨rfl,rfl,h⟩⟩
 ·rename_i h;refine⟨rfl,rfl,rfl,rfl,.inr ⟨rfl,rfl,?_⟩⟩;by_cases hx:t.offer=x
  ·exact hx
  ·exact absurd (.inr hx) h
theorem Ab (C:Crypt) (s:Scene) (x:Int):∃hd,(s.leave C x).c={s.c with q:=Q.drop s.c.q x,t:=(s.c.t.drop x).1,head:=hd}:=by
 unfold Scene.leave;dsimp only;rcases(qD s.c.t x).2.2.2.2 with⟨h1,h2,_⟩|⟨h1,h2,_⟩
 ·rw[if_pos h2,h1];exact⟨s.c.head,rfl⟩
 ·rw[if_neg (by rw[h2];simp)];refine⟨C.next s.c.head ⟨12,x,0,(s.c.t.drop x).1.epoch,16,0⟩,?_⟩;rw[show∀(y:Scene) (k a n e w:Int),(y.record C k a n e w).c={y.c with head:=C.next y.c.head ⟨k,a,n,y.c.t.epoch,e,w⟩}from λ_ _ _ _ _ _=>rfl];simp only[Scene.gone_c]
theorem tj {x:Int} (hx:1<=x/\x<=3) (he:0<=s.c.t.epoch/\s.c.t.epoch<=65535):Quiet C b s (s.leave C x):=by
 unfold Scene.leave;dsimp only;have q0:Quiet C b s ({s with c:={s.c with q:=Q.drop s.c.q x}}:Scene):=Scene.aP rfl rfl rfl rfl;have hd:=qD s.c.t x;split
 ·exact q0
 ·refine q0.trans (Quiet.trans (t:=({s with c:={s.c with q:=Q.drop s.c.q x,t:=(s.c.t.drop x).1}}:Scene)) (Scene.aP hd.1 hd.2.1 rfl rfl) ?_);refine Quiet.trans (Scene.fy (Scene.jE (by omega) (by simp))) (Scene.bO (by simp) ?_);have e:(({s with c:={s.c with q:=Q.drop s.c.q x,t:=(s.c.t.drop x).1}}:Scene).hear (s.c.t.drop x).1.holder {kind:=136,iY:=x,code:=16}).c.t.epoch=s.c.t.epoch:=by
   rw[Scene.hear_c];exact hd.2.1
  constructor<;>first|(dsimp only;rw[e];exact he)|(simp;done)|(simp;omega)
theorem Inv.leave {T:Tab} {x:Int} (h:Inv {s.c with tab:=T}):Inv {(s.leave C x).c with tab:=T}/\(s.leave C x).c.tab=s.c.tab/\(s.leave C x).c.p=s.c.p/\
 (s.leave C x).c.q=Q.drop s.c.q x/\(s.leave C x).c.t.offer≠x/\((s.leave C x).c.t.offer=s.c.t.offer\/(s.leave C x).c.t.offer=-1)/\(s.leave C x).c.t.holder=s.c.t.holder\/x<0:=by
 by_cases hx:x<0
 ·exact .inr hx
 refine .inl ?_;obtain⟨hd,e⟩:=Ab C s x;have hdr:=qD s.c.t x;rw[e];refine⟨?_,rfl,rfl,rfl,?_,?_,hdr.1⟩
 ·have ht:ig s.c.p T (s.c.t.drop x).1:=by
   rcases hdr.2.2.2.2 with⟨h1,_,_⟩|⟨h1,_,_⟩
   ·rw[h1];exact h.tok
   ·rw[h1];exact⟨h.tok.holder,h.tok.epoch,.inl rfl,h.tok.lost⟩
  exact⟨h.p,ht,h.q.drop x (λa ha _=>by show a.source≠(s.c.t.drop x).1.holder;rw[hdr.1];exact(h.q.each a ha).2.2.2.2.1),h.tab,h.samples,h.mode,h.doors⟩
 ·show(s.c.t.drop x).1.offer≠x;rcases hdr.2.2.2.2 with⟨h1,_,h2⟩|⟨h1,_,_⟩
  ·rw[h1];omega
  ·rw[h1];simp[Tok.bG];omega
 ·show(s.c.t.drop x).1.offer=s.c.t.offer\/(s.c.t.drop x).1.offer=-1;rcases hdr.2.2.2.2 with⟨h1,_,h2⟩|⟨h1,_,_⟩
  ·rw[h1];exact .inl rfl
  ·rw[h1];exact .inr rfl
theorem Inv.sr {c:Core} {T:Tab} (h:Inv {c with tab:=T}) (e:c.tab=T):Inv c:=by subst e;exact h
theorem Inv.Ib {c:Core} {T T':Tab} (h:Inv {c with tab:=T}) (ht:xP c.p T') (hq:∀a∈c.q,T'.on a.source=true) (ho:0<=c.t.offer->T'.on c.t.offer=true):Inv {c with tab:=T'}:=
 ⟨h.p,⟨h.tok.holder,h.tok.epoch,h.tok.offer.imp id (λ⟨a,b,d,_,f⟩=>⟨a,b,d,ho (Int.le_trans (by decide) a),f⟩),h.tok.lost⟩,
  ⟨λa ha=>⟨(h.q.each a ha).1,(h.q.each a ha).2.1,(h.q.each a ha).2.2.1,hq a ha,(h.q.each a ha).2.2.2.2⟩,h.q.sorted,h.q.len⟩,ht,h.samples,h.mode,h.doors⟩
theorem Fq {t:Tab} {i:Nat} {x:br} {u:Int} (hu:u.toNat-1≠i):(t.eU i x).on u=t.on u:=by
 simp[Tab.on,Tab.fq,Tab.eU,hu]
theorem lH {t:Tab} {u:Int} {i:Nat} {x:br} (h:t.on u=true) (hx:x.on=true):(t.eU i x).on u=true:=by
 unfold Tab.on Tab.fq Tab.eU at*;split at h
 ·rename_i h1;rw[if_pos h1]
 ·rename_i h1;rw[if_neg h1];split at h
  ·rename_i h2;rw[if_pos h2];exact h
  ·rename_i h2;rw[if_neg h2];simp only[Bool.and_eq_true]at h⊢;refine⟨h.1,?_⟩;split
   ·exact hx
   ·exact h.2
theorem KA {p:Pol} {t:Tab} (h:xP p t) (l:Int):xP p (t.end_ l):=by
 unfold Tab.end_;split
 ·refine⟨h.aA,λi hi tP=>?_⟩;unfold Tab.eU at*;dsimp only at*;split at tP
  ·cases tP
  ·rename_i eS;rw[if_neg eS];exact h.az i hi tP
 ·exact h
theorem O5 {t:Tab} {l u:Int} (hl:1<=l/\l<=3) (hu:u≠l) (h:t.on u=true):(t.end_ l).on u=true:=by
 unfold Tab.end_;split
 ·by_cases h1:u=4
  ·simp[Tab.on,h1]
  by_cases h2:u=0
  ·subst h2;simpa[Tab.on,Tab.eU]using h
  have h3:1<=u/\u<=3:=by
   unfold Tab.on Tab.fq at h;rw[if_neg h1,if_neg h2]at h;simp at h;exact h.1
  rw[Fq (by omega)];exact h
 ·exact h
theorem Vu (h:Inv s.c) (hl:1<=l/\l<=3) (hm:vB m):lF C b s (s.Yz C l m) 0 l:=by
 have e0:=h.eC;unfold Scene.Yz;refine im ?_ hl hm.seq;have hq:Quiet C b s ((({s with c:={s.c with tab:=s.c.tab.end_ l}}:Scene).leave C l)):=
  Quiet.trans (t:=({s with c:={s.c with tab:=s.c.tab.end_ l}}:Scene)) (Scene.aP rfl rfl rfl rfl) (tj hl e0)
 have hs:=hm.seq;refine .cg ?_ (hq.trans (Scene.bO (by simp) ?_))
 ·refine Inv.record ?_ ..;rcases Inv.leave (C:=C) (s:=({s with c:={s.c with tab:=s.c.tab.end_ l}}:Scene)) (T:=s.c.tab) (x:=l) h with⟨h1,h2,h3,h4,h5,h6,h7⟩|hx
  ·refine Inv.sr (T:=s.c.tab.end_ l) (Inv.Ib h1 (T':=s.c.tab.end_ l) (by simpa[h3]using KA h.tab l) ?_ ?_) h2
   ·intro a ha;have Tf:a∈Q.drop s.c.q l:=by simpa[h4]using ha
    simp only[Q.drop,List.mem_filter,decide_eq_true_eq]at Tf;exact O5 hl Tf.2 (h.q.each a Tf.1).2.2.2.1
   ·intro ho;refine O5 hl h5 ?_;rcases h6 with h6|h6
    ·rcases h.tok.offer with h9|⟨_,_,_,h9,_⟩
     ·simp at ho h6;omega
     ·simpa[h6]using h9
    ·simp[h6]at ho
  ·omega
 ·have e1:=hq.epoch;constructor<;>first|(dsimp only;rw[e1];exact e0)|(simp;done)|(simp;omega)
theorem ajl {X:Scene} {r:Reply} {k a n e w:Int} (h:Quiet C b s X) (ht:vA (l,r)) (hk:k≠8) (hb:Fj b ⟨k,a,n,X.c.t.epoch,e,w⟩):Quiet C b s ((X.tell l r).record C k a n e w):=
 h.trans (Quiet.trans (Scene.jD ht) (Scene.bO hk hb))
structure nD (C:Crypt):Prop where
 ab:∀k s n j,0<=C.ab k s n j/\C.ab k s n j<=255
 take:∀n f m,C.take n f=some m->vB m
 oh:∀w n,0<=w.high/\w.high<=4294967295->0<=n/\n<=4294967295->0<=(C.oh w n).high/\(C.oh w n).high<=4294967295
theorem CN {d:Nat->dR} (h:Inv s.c) (hd:∀i,i<3->0<=(d i).many):Inv ({s.c with doors:=d}:Core)/\Quiet C b s ({s with c:={s.c with doors:=d}}:Scene):=
 ⟨⟨h.p,h.tok,h.q,h.tab,h.samples,h.mode,hd⟩,Scene.aP rfl rfl rfl rfl⟩
theorem yf {n:Nat} {f:Byt} (hC:nD C) (h:Inv s.c) (hl:1<=l/\l<=3):lF C b s (s.jt C l n f) 0 l:=by
 have e0:=h.eC;unfold Scene.jt;split
 ·exact jF h hl (λ_=>by omega)
 rename_i m hm;split
 ·exact eK h hl (by omega) (by omega)
 dsimp only;split
 ·exact eK h hl (by omega) (by omega)
 have hd:=h.doors (l.toNat-1) (by omega);obtain⟨i1,q1⟩:=CN (C:=C) (b:=b) h (d:=λj=>if j=l.toNat-1 then⟨(s.c.doors (l.toNat-1)).many+1,true,C.ab (s.c.p.k 3) l ((s.c.doors (l.toNat-1)).many+1)⟩else s.c.doors j)
  (λi hi=>by split<;>first|(dsimp only;omega)|exact h.doors i hi)
 refine .cg (Inv.head i1 _) (q1.trans (Quiet.trans (Scene.jD ⟨hl,Scene.CI (hC.ab (s.c.p.k 3) l ((s.c.doors (l.toNat-1)).many+1))⟩) ?_));exact Scene.bO (by simp) (by constructor<;>simp<;>omega)
theorem O6 {p:Pol} {t:Tab} {s r:Int} {k:Byt} (h:(Tab.bu p t s r k).2=0):
 (Tab.bu p t s r k).1=t.eU (s.toNat-1) ⟨true,.start p.bR,r,k,⟨false,0,0⟩⟩/\1<=s/\s<=3/\0<=r/\r<=3:=by
 unfold Tab.bu at*;split at h
 ·simp at h
 split at h
 ·simp at h
 rename_i h1 h2;rw[if_neg h1,if_neg h2];exact⟨rfl,by omega,by omega,by omega,by omega⟩
theorem Fs (p:Pol) (t:Tab) (s r:Int) (k:Byt):0<=(Tab.bu p t s r k).2/\(Tab.bu p t s r k).2<=19:=by
 unfold Tab.bu;repeat' split
 all_goals simp
theorem Inv.eU {c:Core} (h:Inv c) {i:Nat} {x:br} (hx:x.on=true) (hx2:x.aN.most=c.p.bR/\0<=x.aN.n/\x.aN.n<c.p.bR/\0<=x.role/\x.role<=3/\0<=x.seen.high/\x.seen.high<=4294967295):Inv {c with tab:=c.tab.eU i x}:=by
 refine Inv.Ib (T:=c.tab) h ?_ (λa ha=>lH (h.q.each a ha).2.2.2.1 hx) (λho=>?_)
 ·refine⟨h.tab.aA,λj hj tP=>?_⟩;unfold Tab.eU at*;dsimp only at*;split at tP
  ·rename_i e;rw[if_pos e];exact hx2
  ·rename_i e;rw[if_neg e];exact h.tab.az j hj tP
 ·rcases h.tok.offer with h1|⟨_,_,_,h1,_⟩
  ·omega
  ·exact lH h1 hx
theorem yg {n:Nat} {f:Byt} (hC:nD C) (h:Inv s.c) (hl:1<=l/\l<=3):lF C b s (s.prove C l n f) 0 l:=by
 have e0:=h.eC;unfold Scene.prove;split
 ·exact jF h hl (λ_=>by omega)
 split
 ·exact jF h hl (λ_=>by omega)
 rename_i m hm;have hmb:=hC.take _ _ _ hm;dsimp only;split
 ·exact eK h hl (by omega) (by omega)
 have hd:=h.doors (l.toNat-1) (by omega);obtain⟨i1,q1⟩:=CN (C:=C) (b:=b) h (d:=λj=>if j=l.toNat-1 then⟨(s.c.doors (l.toNat-1)).many,false,λ_=>0⟩else s.c.doors j)
  (λi hi=>by split<;>first|(dsimp only;omega)|exact h.doors i hi)
 split
 ·exact⟨i1.head _,.inl (q1.trans (qA (s:=⟨_,_,_⟩) i1 hl (λ_=>by omega)))⟩
 split
 ·exact⟨i1.head _,.inl (q1.trans (lG (s:=⟨_,_,_⟩) i1 hl (by omega) (by omega)))⟩
 split
 ·have h2:=Fs s.c.p s.c.tab l m.role (C.key (s.c.p.k (l.toNat-1)) l m.role (s.c.doors (l.toNat-1)).ab);exact⟨i1.head _,.inl (q1.trans (lG (s:=⟨_,_,_⟩) i1 hl (by omega) ⟨h2.1,Int.le_trans h2.2 (by decide)⟩))⟩
 rename_i hz;obtain⟨g1,g2,g3,g4,g5⟩:=O6 (by simpa using hz);have hb:=h.p.bR;have i2:=Inv.eU (c:={s.c with doors:=_}) i1 (i:=l.toNat-1) (x:=⟨true,.start s.c.p.bR,m.role,C.key (s.c.p.k (l.toNat-1)) l m.role (s.c.doors (l.toNat-1)).ab,⟨false,0,0⟩⟩) rfl
  ⟨by simp[Timer.start];omega,by simp[Timer.start],by simp[Timer.start];omega,g4,g5,by simp,by simp⟩
 have hh:=h.tok.holder;rw[g1];refine .cg (Inv.head i2 _) (ajl (q1.trans (Scene.aP rfl rfl rfl rfl)) ⟨hl,Scene.xA ⟨g4,g5⟩ hh e0⟩ (by simp) ?_);constructor<;>simp<;>omega
theorem Ac {p:Pol} {t t':Tab} {l:Int} {n:Nat} {f:Byt} {m:db} (hC:nD C) (h:Tab.take C p t l n f=(t',.ok m)):
 t.fq l=true/\vB m/\m.kind≠1/\m.kind≠2/\
 t'=t.eU (l.toNat-1) {(t.az (l.toNat-1))with seen:=C.oh (t.az (l.toNat-1)).seen m.seq,on:=true,aN:=.start p.bR}:=by
 unfold Tab.take at h;split at h
 ·simp at h
 rename_i h1;split at h
 ·simp at h
 split at h
 ·simp at h
 rename_i m' hm;split at h
 ·simp at h
 split at h
 ·simp at h
 rename_i h2 h3;simp at h;obtain⟨rfl,rfl⟩:=h;exact⟨by simpa using h1,hC.take _ _ _ hm,by omega,by omega,rfl⟩
theorem qF {p:Pol} {t t':Tab} {l:Int} {n:Nat} {f:Byt} {e:Int} (h:Tab.take C p t l n f=(t',.error e)):13<=e/\e<=16:=by
 unfold Tab.take at h;split at h
 ·simp at h;omega
 split at h
 ·simp at h;omega
 split at h
 ·simp at h;omega
 split at h
 ·simp at h;omega
 split at h
 ·simp at h;omega
 ·simp at h
theorem Ic (h:Inv s.c) (hl:1<=l/\l<=3) (hm:vB m) (tP:s.c.tab.on l=true) (h1:m.kind≠1) (h2:m.kind≠2):lF C b s (s.uO C l m) 0 l:=by
 have hk:=hm.kind;unfold Scene.uO;split
 ·exact im (.cg h (Quiet.refl ..)) hl hm.seq
 split
 ·exact Vu h hl hm
 split
 ·exact Vt h hl hm tP
 split
 ·exact Kx h hl hm
 split
 ·exact Fo h hl hm
 split
 ·exact O3 h hl hm
 split
 ·exact CL h hl hm
 split
 ·exact CM h hl hm
 ·omega
theorem Ad {t:Tab} {l:Int} (hl:1<=l/\l<=3):t.on l=t.fq l:=by
 unfold Tab.on;rw[if_neg (by omega),if_neg (by omega)]
theorem lF.sr {t:Scene} {T:Tab} {kind link:Int} (k:lF C b ({s with c:={s.c with tab:=T}}:Scene) t kind link):lF C b s t kind link:=
 ⟨k.inv,by
  rcases k.Fm with q|⟨how,g,w⟩
  ·refine .inl (Quiet.trans ?_ q);exact Scene.aP rfl rfl rfl rfl
  ·refine .inr ⟨how,Quiet.goes ?_ g,w⟩;exact Scene.aP rfl rfl rfl rfl⟩
theorem vE {n:Nat} {f:Byt} {code:Int} (hC:nD C) (h:Inv s.c) (hl:1<=l/\l<=3) (hb:b->0<=code/\code<=255):lF C b s (s.item C l code n f) 0 l:=by
 unfold Scene.item;split
 ·exact jF h hl hb
 split
 ·exact yf hC h hl
 split
 ·exact yg hC h hl
 split
 ·rename_i t e he;have:=qF he;exact jF h hl (λ_=>by omega)
 ·rename_i t m he;obtain⟨g1,g2,g3,g4,g5⟩:=Ac hC he;have hb:=h.p.bR;have g1':s.c.tab.on l=true:=by rw[Ad hl];exact g1
  have i1:=h.eU (i:=l.toNat-1) (x:={(s.c.tab.az (l.toNat-1))with seen:=C.oh (s.c.tab.az (l.toNat-1)).seen m.seq,on:=true,aN:=.start s.c.p.bR}) rfl
   (by
    have tP:(s.c.tab.az (l.toNat-1)).on=true:=by unfold Tab.fq at g1;simp at g1;exact g1.2
    have:=h.tab.az (l.toNat-1) (by omega) tP;have h9:=hC.oh (s.c.tab.az (l.toNat-1)).seen m.seq ⟨by omega,by omega⟩ g2.seq;simp[Timer.start];omega)
  subst g5;exact lF.sr (Ic (s:=⟨{s.c with tab:=_},s.sent,s.recs⟩) i1 hl g2 (lH g1' rfl) g3 g4)
end Sd
namespace Go.Proofs.YtlkpikfddnjilaaGreatDoor
open Go Go.RowKit Go.BigFrame Sx
theorem su (x y:Int) (hx:0<=x/\x<2^56) (hy:0<=y/\y<256):bits .or .u64 (u64.wrap (x*2^8)) y=x*256+y:=by
 have hw:u64.wrap (x*2^8)=x*256:=by rw[IntKind.wrap_u64];omega
 rw[hw];obtain⟨a,rfl⟩:∃a:Nat,x=a:=⟨x.toNat,by omega⟩;obtain⟨b,rfl⟩:∃b:Nat,y=b:=⟨y.toNat,by omega⟩;have ha:a<2^56:=by omega
 have hb:b<256:=by omega
 unfold bits;have h1:(BitVec.ofInt 64 ((a:Int)*256)).toNat=a*256:=by simp only[BitVec.toNat_ofInt];omega
 have h2:(BitVec.ofInt 64 (b:Int)).toNat=b:=by simp only[BitVec.toNat_ofInt];omega
 have h3:(a*256|||b)=a*256+b:=by
  have:=Nat.shiftLeft_add_eq_or_of_lt (i:=8) (b:=b) (by omega) a;rw[Nat.shiftLeft_eq]at this;exact this.symm
 show u64.wrap (((BitVec.ofInt 64 ((a:Int)*256)|||BitVec.ofInt 64 (b:Int)).toNat:Nat):Int)=_;rw[BitVec.toNat_or,h1,h2,h3,IntKind.wrap_u64];omega
theorem abG (y:Int) (hy:0<=y/\y<256):bits .or .u64 0 y=y:=by
 have h:=su 0 y (by omega) hy;rw[show u64.wrap (0*2^8)=0 from by decide]at h;rw[h];omega
def tk1 (f:Nat->Int):Int:=f 0
def pa (f:Nat->Int):Int:=f 0*256+f 1
def tk4 (f:Nat->Int):Int:=((f 0*256+f 1)*256+f 2)*256+f 3
def By (f:Nat->Int):Prop:=∀j,0<=f j/\f j<=255
theorem abH {f:Nat->Int} (h:By f):0<=tk1 f/\tk1 f<=255:=h 0
theorem O7 {f:Nat->Int} (h:By f):0<=pa f/\pa f<=65535:=by have:=h 0;have:=h 1;unfold pa;omega
theorem abI {f:Nat->Int} (h:By f):0<=tk4 f/\tk4 f<=4294967295:=by have:=h 0;have:=h 1;have:=h 2;have:=h 3;unfold tk4;omega
def Y4 (x:Int):Int:=if 32767<x then x-65536 else x
theorem Vv (b o c:Nat) (f:Nat->Int) (hf:By f) (w:World) (hB:fl w b o 1 f):
 ak prog 125 #[.slice (some ⟨b,o,none⟩) 1 c] w λv w1=>v=.tuple #[.int .u64 (tk1 f),.int .i64 0]/\Ch [] w w1:=by
 have S0:=St.nil [] w;refine ct Tryz.func125 rfl ?_;refine ao (aw ?_);refine aa (.int .u64 0) ?_;refine aa (.int .i64 0) ?_;refine au (ae (ao (ao (aw ?_))));refine bJ ?_;refine aa (.int .i64 1) ?_;refine aa (.bool false) ?_;refine au (ae (gv ?_));refine wp_skip (ae (ao (aw ?_)));refine aa (.int .u64 0) ?_;refine au (ae (ao (ao (aw ?_))));refine bJ ?_;refine aa (.int .i64 1) ?_;refine aa (.int .i64 0) ?_;refine au (ae (wp_block (Bx 24 (ao (aw ?_)))));refine aa (.bool true) ?_;refine au (ae (ao (jk ?_)));refine wp_skip (ae (ao (wp_block (ao (aw ?_)))));refine aa (.int .i64 0) ?_;refine aa (.int .i64 0) ?_;refine au (ae (aw ?_));refine aa (.int .u64 0) ?_;refine aa (.int .u64 0) ?_;refine bJ ?_;refine aa (.int .i64 0) ?_;refine lS (e:=5) b o 0 1 1 c .i64 0 (by omega) (by omega) (by omega) ?_;refine j_ b o 1 (o+0*1) 0 f (St.iE S0 hB (by simp)) (by omega) (by omega) ?_;have zh1:=hf 0;refine j9 .u64 (f 0) (IntWalk.u64_in _ (by omega)) ?_;refine e_ (.int .u64 (bits .or .u64 0 (f 0))) (.int .u64 (f 0)) (congrArg _ (abG (f 0) (by omega))) ?_;refine aa (.int .u64 (f 0)) ?_;refine au (gL (ae (aw ?_)));refine aa (.int .i64 1) ?_;refine aa (.int .i64 1) ?_;refine au (k7 (ao (aw ?_)));refine aa (.bool false) ?_;refine au (ae (ao (gv ?_)));refine wp_exit (fa (fa (pM (ae (ao (aw ?_))))));refine aa (.int .u64 (f 0)) ?_;refine aa (.int .u64 (f 0)) ?_;refine aa (.int .i64 0) ?_;refine au (ae (wp_ret ?_));refine eD rfl (ei [.tmp 2,.tmp 3] [.int .u64 (f 0),.int .i64 0] (.tuple #[.int .u64 (f 0),.int .i64 0]) ⟨bo,bo,trivial⟩) ?_;exact⟨rfl,S0.ch⟩
theorem Ie (b o c:Nat) (f:Nat->Int) (hf:By f) (w:World) (hB:fl w b o 2 f):
 ak prog 125 #[.slice (some ⟨b,o,none⟩) 2 c] w λv w1=>v=.tuple #[.int .u64 (pa f),.int .i64 0]/\Ch [] w w1:=by
 have S0:=St.nil [] w;refine ct Tryz.func125 rfl ?_;refine ao (aw ?_);refine aa (.int .u64 0) ?_;refine aa (.int .i64 0) ?_;refine au (ae (ao (ao (aw ?_))));refine bJ ?_;refine aa (.int .i64 2) ?_;refine aa (.bool false) ?_;refine au (ae (gv ?_));refine wp_skip (ae (ao (aw ?_)));refine aa (.int .u64 0) ?_;refine au (ae (ao (ao (aw ?_))));refine bJ ?_;refine aa (.int .i64 2) ?_;refine aa (.int .i64 0) ?_;refine au (ae (wp_block (Bx 24 (ao (aw ?_)))));refine aa (.bool true) ?_;refine au (ae (ao (jk ?_)));refine wp_skip (ae (ao (wp_block (ao (aw ?_)))));refine aa (.int .i64 0) ?_;refine aa (.int .i64 0) ?_;refine au (ae (aw ?_));refine aa (.int .u64 0) ?_;refine aa (.int .u64 0) ?_;refine bJ ?_;refine aa (.int .i64 0) ?_;refine lS (e:=5) b o 0 2 1 c .i64 0 (by omega) (by omega) (by omega) ?_;refine j_ b o 2 (o+0*1) 0 f (St.iE S0 hB (by simp)) (by omega) (by omega) ?_;have zh1:=hf 0;refine j9 .u64 (f 0) (IntWalk.u64_in _ (by omega)) ?_;refine e_ (.int .u64 (bits .or .u64 0 (f 0))) (.int .u64 (f 0)) (congrArg _ (abG (f 0) (by omega))) ?_;refine aa (.int .u64 (f 0)) ?_;refine au (gL (ae (aw ?_)));refine aa (.int .i64 1) ?_;refine aa (.int .i64 1) ?_;refine au (k7 (ao (aw ?_)));refine aa (.bool true) ?_;refine au (ae (ao (jk ?_)));refine wp_skip (ae (ao (wp_block (ao (aw ?_)))));refine aa (.int .i64 1) ?_;refine aa (.int .i64 1) ?_;refine au (ae (aw ?_));refine aa (.int .u64 (f 0)) ?_;refine aa (.int .u64 (u64.wrap ((f 0)*2^8))) ?_;refine bJ ?_;refine aa (.int .i64 1) ?_;refine lS (e:=5) b o 1 2 1 c .i64 1 (by omega) (by omega) (by omega) ?_;refine j_ b o 2 (o+1*1) 1 f (St.iE S0 hB (by simp)) (by omega) (by omega) ?_;have zh2:=hf 1;refine j9 .u64 (f 1) (IntWalk.u64_in _ (by omega)) ?_;refine e_ (.int .u64 (bits .or .u64 (u64.wrap ((f 0)*2^8)) (f 1))) (.int .u64 ((f 0)*256+(f 1))) (congrArg _ (su (f 0) (f 1) (by omega) (by omega))) ?_;refine bm ?_;refine au (gL (ae (aw ?_)));refine aa (.int .i64 2) ?_;refine aa (.int .i64 2) ?_;refine au (k7 (ao (aw ?_)));refine aa (.bool false) ?_;refine au (ae (ao (gv ?_)));refine wp_exit (fa (fa (pM (ae (ao (aw ?_))))));refine bJ ?_;refine bm ?_;refine aa (.int .i64 0) ?_;refine au (ae (wp_ret ?_));refine eD rfl (ei [.tmp 2,.tmp 3] [.int .u64 ((f 0)*256+(f 1)),.int .i64 0] (.tuple #[.int .u64 ((f 0)*256+(f 1)),.int .i64 0]) ⟨bo,bo,trivial⟩) ?_;exact⟨rfl,S0.ch⟩
theorem Vw (b o c:Nat) (f:Nat->Int) (hf:By f) (w:World) (hB:fl w b o 4 f):
 ak prog 125 #[.slice (some ⟨b,o,none⟩) 4 c] w λv w1=>v=.tuple #[.int .u64 (tk4 f),.int .i64 0]/\Ch [] w w1:=by
 have S0:=St.nil [] w;refine ct Tryz.func125 rfl ?_;refine ao (aw ?_);refine aa (.int .u64 0) ?_;refine aa (.int .i64 0) ?_;refine au (ae (ao (ao (aw ?_))));refine bJ ?_;refine aa (.int .i64 4) ?_;refine aa (.bool false) ?_;refine au (ae (gv ?_));refine wp_skip (ae (ao (aw ?_)));refine aa (.int .u64 0) ?_;refine au (ae (ao (ao (aw ?_))));refine bJ ?_;refine aa (.int .i64 4) ?_;refine aa (.int .i64 0) ?_;refine au (ae (wp_block (Bx 24 (ao (aw ?_)))));refine aa (.bool true) ?_;refine au (ae (ao (jk ?_)));refine wp_skip (ae (ao (wp_block (ao (aw ?_)))));refine aa (.int .i64 0) ?_;refine aa (.int .i64 0) ?_;refine au (ae (aw ?_));refine aa (.int .u64 0) ?_;refine aa (.int .u64 0) ?_;refine bJ ?_;refine aa (.int .i64 0) ?_;refine lS (e:=5) b o 0 4 1 c .i64 0 (by omega) (by omega) (by omega) ?_;refine j_ b o 4 (o+0*1) 0 f (St.iE S0 hB (by simp)) (by omega) (by omega) ?_;have zh1:=hf 0;refine j9 .u64 (f 0) (IntWalk.u64_in _ (by omega)) ?_;refine e_ (.int .u64 (bits .or .u64 0 (f 0))) (.int .u64 (f 0)) (congrArg _ (abG (f 0) (by omega))) ?_;refine aa (.int .u64 (f 0)) ?_;refine au (gL (ae (aw ?_)));refine aa (.int .i64 1) ?_;refine aa (.int .i64 1) ?_;refine au (k7 (ao (aw ?_)));refine aa (.bool true) ?_;refine au (ae (ao (jk ?_)));refine wp_skip (ae (ao (wp_block (ao (aw ?_)))));refine aa (.int .i64 1) ?_;refine aa (.int .i64 1) ?_;refine au (ae (aw ?_));refine aa (.int .u64 (f 0)) ?_;refine aa (.int .u64 (u64.wrap ((f 0)*2^8))) ?_;refine bJ ?_;refine aa (.int .i64 1) ?_;refine lS (e:=5) b o 1 4 1 c .i64 1 (by omega) (by omega) (by omega) ?_;refine j_ b o 4 (o+1*1) 1 f (St.iE S0 hB (by simp)) (by omega) (by omega) ?_;have zh2:=hf 1;refine j9 .u64 (f 1) (IntWalk.u64_in _ (by omega)) ?_;refine e_ (.int .u64 (bits .or .u64 (u64.wrap ((f 0)*2^8)) (f 1))) (.int .u64 ((f 0)*256+(f 1))) (congrArg _ (su (f 0) (f 1) (by omega) (by omega))) ?_;refine bm ?_;refine au (gL (ae (aw ?_)));refine aa (.int .i64 2) ?_;refine aa (.int .i64 2) ?_;refine au (k7 (ao (aw ?_)));refine aa (.bool true) ?_;refine au (ae (ao (jk ?_)));refine wp_skip (ae (ao (wp_block (ao (aw ?_)))));refine aa (.int .i64 2) ?_;refine aa (.int .i64 2) ?_;refine au (ae (aw ?_));refine bJ ?_;refine aa (.int .u64 (u64.wrap (((f 0)*256+(f 1))*2^8))) ?_;refine bJ ?_;refine aa (.int .i64 2) ?_;refine lS (e:=5) b o 2 4 1 c .i64 2 (by omega) (by omega) (by omega) ?_;refine j_ b o 4 (o+2*1) 2 f (St.iE S0 hB (by simp)) (by omega) (by omega) ?_;have zh3:=hf 2;refine j9 .u64 (f 2) (IntWalk.u64_in _ (by omega)) ?_;refine e_ (.int .u64 (bits .or .u64 (u64.wrap (((f 0)*256+(f 1))*2^8)) (f 2))) (.int .u64 (((f 0)*256+(f 1))*256+(f 2))) (congrArg _ (su ((f 0)*256+(f 1)) (f 2) (by omega) (by omega))) ?_;refine bm ?_;refine au (gL (ae (aw ?_)));refine aa (.int .i64 3) ?_;refine aa (.int .i64 3) ?_;refine au (k7 (ao (aw ?_)));refine aa (.bool true) ?_;refine au (ae (ao (jk ?_)));refine wp_skip (ae (ao (wp_block (ao (aw ?_)))));refine aa (.int .i64 3) ?_;refine aa (.int .i64 3) ?_;refine au (ae (aw ?_));refine bJ ?_;refine aa (.int .u64 (u64.wrap ((((f 0)*256+(f 1))*256+(f 2))*2^8))) ?_;refine bJ ?_;refine aa (.int .i64 3) ?_;refine lS (e:=5) b o 3 4 1 c .i64 3 (by omega) (by omega) (by omega) ?_;refine j_ b o 4 (o+3*1) 3 f (St.iE S0 hB (by simp)) (by omega) (by omega) ?_;have zh4:=hf 3;refine j9 .u64 (f 3) (IntWalk.u64_in _ (by omega)) ?_;refine e_ (.int .u64 (bits .or .u64 (u64.wrap ((((f 0)*256+(f 1))*256+(f 2))*2^8)) (f 3))) (.int .u64 ((((f 0)*256+(f 1))*256+(f 2))*256+(f 3))) (congrArg _ (su (((f 0)*256+(f 1))*256+(f 2)) (f 3) (by omega) (by omega))) ?_;refine bm ?_;refine au (gL (ae (aw ?_)));refine aa (.int .i64 4) ?_;refine aa (.int .i64 4) ?_;refine au (k7 (ao (aw ?_)));refine aa (.bool false) ?_;refine au (ae (ao (gv ?_)));refine wp_exit (fa (fa (pM (ae (ao (aw ?_))))));refine bJ ?_;refine bm ?_;refine aa (.int .i64 0) ?_;refine au (ae (wp_ret ?_));refine eD rfl (ei [.tmp 2,.tmp 3] [.int .u64 ((((f 0)*256+(f 1))*256+(f 2))*256+(f 3)),.int .i64 0] (.tuple #[.int .u64 ((((f 0)*256+(f 1))*256+(f 2))*256+(f 3)),.int .i64 0]) ⟨bo,bo,trivial⟩) ?_;exact⟨rfl,S0.ch⟩
theorem O8 (b o c:Nat) (f:Nat->Int) (hf:By f) (w:World) (hB:fl w b o 2 f):
 ak prog 124 #[.slice (some ⟨b,o,none⟩) 2 c] w λv w1=>v=.tuple #[.int .i64 (Y4 (pa f)),.int .i64 0]/\Ch [] w w1:=by
 have S0:=St.nil [] w;refine ct Tryz.func124 rfl ?_;refine ao (aw ?_);refine aa (.int .i64 0) ?_;refine aa (.int .i64 0) ?_;refine au (ae (ao (ao (aw ?_))));refine bJ ?_;refine aa (.int .i64 2) ?_;refine aa (.bool false) ?_;refine au (ae (gv ?_));refine wp_skip (ae (ao (aw ?_)));refine bJ ?_;refine cd 125 #[.slice (some ⟨b,o,none⟩) 2 c] ?_;refine(Ie b o c f hf _ (St.iE S0 hB (by simp))).mono ?_;rintro _ zw1 ⟨rfl,zh2⟩;have fm:=S0.quiet zh2;have zh4:=O7 hf;refine bJ ?_;refine aa (.int .u64 (pa f)) ?_;refine aa (.int .i64 0) ?_;refine aa (.int .u64 (pa f)) ?_;refine aa (.int .i64 0) ?_;refine au (ae (ao (ao (aw ?_))));refine aa (.int .i64 0) ?_;refine aa (.bool false) ?_;refine au (ae (gv ?_));refine wp_skip (ae (ao (aw ?_)));refine aa (.int .u64 (pa f)) ?_;refine j9 .i64 (pa f) (IntWalk.i64_in _ (by omega)) ?_;refine aa (.int .i64 (pa f)) ?_;refine au (ae (ao (ao (aw ?_))));refine aa (.int .i64 (pa f)) ?_;refine aa (.bool (decide (32767<(pa f)))) ?_;refine au (ae ?_);refine jl (decide (32767<(pa f))) ?_ ?_
 ·intro zh5;have zh6:=Er zh5;refine aw ?_;refine aa (.int .i64 (pa f)) ?_;refine j9 .i64 ((pa f)-65536) (IntWalk.i64_in _ (by omega)) ?_;refine bm ?_;refine au (ae (ao (aw ?_)));refine bJ ?_;refine bm ?_;refine aa (.int .i64 0) ?_;refine au (ae (wp_ret ?_));refine eD rfl (ei [.tmp 2,.tmp 3] [.int .i64 ((pa f)-65536),.int .i64 0] (.tuple #[.int .i64 ((pa f)-65536),.int .i64 0]) ⟨bo,bo,trivial⟩) ?_;have ze:Y4 (pa f)=((pa f)-65536):=by unfold Y4;split<;>omega
  exact⟨by(rw[ze])<;>rfl,fm.ch⟩
 intro UM;have Ej:=Es UM;refine wp_skip (ae (ao (aw ?_)));refine aa (.int .i64 (pa f)) ?_;refine aa (.int .i64 (pa f)) ?_;refine aa (.int .i64 0) ?_;refine au (ae (wp_ret ?_));refine eD rfl (ei [.tmp 2,.tmp 3] [.int .i64 (pa f),.int .i64 0] (.tuple #[.int .i64 (pa f),.int .i64 0]) ⟨bo,bo,trivial⟩) ?_;have ze:Y4 (pa f)=(pa f):=by unfold Y4;split<;>omega
 exact⟨by(rw[ze])<;>rfl,fm.ch⟩
end Go.Proofs.YtlkpikfddnjilaaGreatDoor
