/- Part 21 of the proof. -/
import Derived.Test.YtggfpcggakghnaaGreatDoorQ20
set_option linter.all false
set_option maxRecDepth 100000
set_option maxHeartbeats 4000000
open Go.Proofs.Tryz
namespace Sd
variable{C:Crypt} {b:Prop} {s:Scene} {l:Int} {m:bW}
structure Mid (c c':Core):Prop where
 inv:Inv c'
 p:c'.p=c.p
 tab:c'.tab=c.tab.tick
 holder:c'.t.holder=c.t.holder
 epoch:c'.t.epoch=c.t.epoch
 la:c'.t.la=c.t.la
 bad:c'.t.bad=c.t.bad
 q:c'.q=Q.kept (BX c.q c.tab.ended)
 offer:c'.t.offer=(lq c.t c.tab.ended).tick.1.offer
 mode:c'.mode=c.mode/\c'.bj=c.bj/\c'.pt=c.pt
 rest:c'.samples=c.samples/\c'.beyond=c.beyond/\c'.doors=c.doors
def lr (C:Crypt) (s:Scene):Scene:=s.c.tab.ended.foldl (h_ C) ({s with c:={s.c with tab:=s.c.tab.tick}}:Scene)
def lu (C:Crypt) (s:Scene):Scene:=
 let s2:=s.bb s.c.t.tick.1
 if 0<=s.c.t.tick.2 then(s2.gone s.c.t.tick.1.holder s.c.t.tick.2 30).record C 12 s.c.t.tick.2 0 30 0 else s2
def rV (C:Crypt) (s:Scene):Scene:=(Q.gone s.c.q).foldl (kA C) ({s with c:={s.c with q:=Q.kept s.c.q}}:Scene)
theorem vA (C:Crypt) (s:Scene):s.tick C=(let s6:=(rV C (lu C (lr C s))).cY C;{s6 with c:={s6.c with pt:=s6.c.pt.step s6.c.p}}):=rfl
theorem TD (h:Inv s.c):Quiet C b s (rV C (lu C (lr C s)))/\Mid s.c (rV C (lu C (lr C s))).c:=by
 have e0:=h.eW;obtain⟨a1,a2,Zm,a3⟩:=NO (C:=C) (b:=b) s.c.tab.ended ({s with c:={s.c with tab:=s.c.tab.tick}}:Scene) s.c.tab (λx hx=>NP hx) h;have q1:Quiet C b s (lr C s):=Quiet.trans (t:=({s with c:={s.c with tab:=s.c.tab.tick}}:Scene)) (Scene.aS rfl rfl rfl rfl) a2;have i1:Inv (lr C s).c:=by
  have e3:(lr C s).c={s.c with tab:=s.c.tab.tick,q:=BX s.c.q s.c.tab.ended,t:=lq s.c.t s.c.tab.ended,head:=Zm}:=a3;refine Inv.nt (T:=s.c.tab.tick) (Inv.JN (T:=s.c.tab) a1 (by rw[e3];exact HW h.p h.tab) ?_ ?_) (by rw[e3])
  ·rw[e3];intro x hx;obtain⟨OM,HD⟩:=(Tv _ _ _).1 hx;have:=h.q.each x OM;refine Ks ⟨this.2.1,this.2.2.1⟩ this.2.2.2.1 (λhm=>HD x.source hm ?_ rfl);simp[linked];omega
  ·rw[e3];intro ho;have hf:=xM s.c.tab.ended s.c.t;show s.c.tab.tick.on (lq s.c.t s.c.tab.ended).offer=true;have yD:0<=(lq s.c.t s.c.tab.ended).offer:=ho;rcases hf.2.2.2.2 with⟨e,e_⟩|⟨e,_⟩|⟨e,e'⟩
   ·rw[e]at yD⊢;rcases h.tok.offer with h1|⟨h1,h2,_,h3,_⟩
    ·omega
    ·refine Ks ⟨h1,h2⟩ h3 (λhm=>e_ _ hm ?_ rfl);simp[linked];omega
   ·rw[e]at yD;simp[Tok.bG]at yD
   ·rw[e',e]at yD;omega
 have e1:(lr C s).c={s.c with tab:=s.c.tab.tick,q:=BX s.c.q s.c.tab.ended,t:=lq s.c.t s.c.tab.ended,head:=Zm}:=a3;have hf:=xM s.c.tab.ended s.c.t;generalize lr C s=s1 at*;have e10:=i1.eW;have hk:=Tz i1.tok;have i2:Inv {s1.c with t:=s1.c.t.tick.1}:=⟨i1.p,hk.2.2.2.2.1,by show LN _ _ s1.c.t.tick.1.holder _;rw[hk.1];exact i1.q,i1.tab,i1.samples,i1.mode,i1.doors⟩;have q2:Quiet C b s1 (lu C s1)/\∃hd,(lu C s1).c={s1.c with t:=s1.c.t.tick.1,head:=hd}:=by
  have q20:Quiet C b s1 (s1.bb s1.c.t.tick.1):=Scene.aS hk.1 hk.2.1 rfl rfl;unfold lu;dsimp only;split
  ·rename_i hw;have hw':1<=s1.c.t.tick.2/\s1.c.t.tick.2<=3:=by rcases hk.2.2.2.2.2 with⟨e,_⟩|⟨e,_,_,_⟩<;>omega
   refine⟨q20.trans (Quiet.trans (Scene.fP (Scene.jW (by omega) (by omega))) (Scene.bR (by simp) ?_)),?_⟩
   ·refine⟨by simp,by dsimp only;omega,by simp,?_,by simp,by simp⟩;dsimp only;rw[Scene.hear_c];show 0<=s1.c.t.tick.1.epoch/\s1.c.t.tick.1.epoch<=65535;rw[hk.2.1];exact e10
   ·refine⟨C.next s1.c.head ⟨12,s1.c.t.tick.2,0,s1.c.t.tick.1.epoch,30,0⟩,?_⟩;rw[show∀(y:Scene) (k a n e w:Int),(y.record C k a n e w).c={y.c with head:=C.next y.c.head ⟨k,a,n,y.c.t.epoch,e,w⟩}from λ_ _ _ _ _ _=>rfl,Scene.gone_c];rfl
  ·exact⟨q20,s1.c.head,rfl⟩
 obtain⟨q2,hd2,e2⟩:=q2;have ZH:Inv (lu C s1).c:=by rw[e2];exact i2.head _
 generalize lu C s1=s2 at*;have e20:=ZH.eW;obtain⟨a4,hd3,e3⟩:=HX (C:=C) (b:=b) (Q.gone s2.c.q) ({s2 with c:={s2.c with q:=Q.kept s2.c.q}}:Scene)
  (λa ha=>by
   obtain⟨x,hx,rfl,_⟩:=Tx ha;have:=ZH.q.each x hx;exact⟨this.2.1,this.2.2.1⟩) e20
 have q3:Quiet C b s2 (rV C s2):=Quiet.trans (t:=({s2 with c:={s2.c with q:=Q.kept s2.c.q}}:Scene)) (Scene.aS rfl rfl rfl rfl) a4;have TE:(rV C s2).c={s2.c with q:=Q.kept s2.c.q,head:=hd3}:=e3;have i3:Inv (rV C s2).c:=by
  rw[TE];exact⟨ZH.p,ZH.tok,ZH.q.kept,ZH.tab,ZH.samples,ZH.mode,ZH.doors⟩
 refine⟨q1.trans (q2.trans q3),i3,?_,?_,?_,?_,?_,?_,?_,?_,?_,?_⟩
 ·rw[TE,e2,e1]
 ·rw[TE,e2,e1]
 ·rw[TE,e2];show s1.c.t.tick.1.holder=_;rw[hk.1,e1];exact hf.1
 ·rw[TE,e2];show s1.c.t.tick.1.epoch=_;rw[hk.2.1,e1];exact hf.2.1
 ·rw[TE,e2];show s1.c.t.tick.1.la=_;rw[hk.2.2.1,e1];exact hf.2.2.1
 ·rw[TE,e2];show s1.c.t.tick.1.bad=_;rw[hk.2.2.2.1,e1];exact hf.2.2.2.1
 ·rw[TE,e2,e1]
 ·rw[TE,e2,e1]
 ·rw[TE,e2,e1];exact⟨rfl,rfl,rfl⟩
 ·rw[TE,e2,e1];exact⟨rfl,rfl,rfl⟩
structure afa (c m c':Core) (how:Int):Prop where
 p:c'.p=c.p
 tab:c'.tab=c.tab.tick
 lost:EK c.p m.t m.q (m.tab.on m.t.holder) c'.t how c'.q
 agm:how=5->c'.mode=c.p.lost/\c'.bj=⟨3,4,0⟩/\c'.pt=(c.pt.hold ⟨3,4,0⟩).step c.p
 stays:how=0->c'.mode=c.mode/\c'.bj=c.bj/\c'.pt=c.pt.step c.p
theorem TF (h:Inv s.c):l5 C b s (s.tick C) 3 0/\∃m how,Mid s.c m/\afa s.c m (s.tick C).c how:=by
 obtain⟨q3,hm⟩:=TD (C:=C) (b:=b) h;rw[vA];generalize rV C (lu C (lr C s))=s3 at*;obtain⟨⟨i4,w4⟩,t4,p4,l4,r4,fV⟩:=TA (C:=C) (b:=b) hm.inv;generalize hs4:s3.cY C=s4 at*;dsimp only;have i5:Inv {s4.c with pt:=s4.c.pt.step s4.c.p}:=⟨i4.p,i4.tok,i4.q,i4.tab,i4.samples,i4.mode,i4.doors⟩;have q5:Quiet C b s4 ({s4 with c:={s4.c with pt:=s4.c.pt.step s4.c.p}}:Scene):=Scene.aS rfl rfl rfl rfl;refine⟨⟨i5,?_⟩,s3.c,(bM s3.c.p s3.c.t s3.c.q (s3.c.tab.on s3.c.t.holder)).2.1,hm,p4.trans hm.p,t4.trans hm.tab,?_,?_,?_⟩
 ·rcases w4 with w4|⟨how,g4,w4⟩
  ·exact .inl (q3.trans (w4.trans q5))
  ·refine .inr ⟨how,(q3.goes g4).quiet q5 g4.offer,?_⟩;unfold oQ at*;simp only[hm.holder,hm.epoch]at w4;rcases w4 with⟨e,k,_⟩|⟨e,k,_⟩|⟨e,k,_⟩|⟨e,k,_⟩|w4|⟨e,k,w4⟩
   ·omega
   ·omega
   ·omega
   ·omega
   ·exact .inr (.inr (.inr (.inr (.inl ⟨w4.1,rfl,w4.2.2⟩))))
   ·refine .inr (.inr (.inr (.inr (.inr ⟨e,k,?_⟩))));rcases w4 with⟨e',_⟩|w4
    ·omega
    ·exact .inr ⟨rfl,w4.2⟩
 ·rw[hm.p]at l4;rw[hm.p];exact l4
 ·intro e;obtain⟨r1,r2,r3⟩:=r4 e;refine⟨by rw[<-hm.p];exact r1,r2,?_⟩;show s4.c.pt.step s4.c.p=_;rw[r3,p4,hm.p,hm.mode.2.2]
 ·intro e;obtain⟨r1,r2,r3⟩:=fV e;refine⟨by rw[<-hm.mode.1];exact r1,by rw[<-hm.mode.2.1];exact r2,?_⟩;show s4.c.pt.step s4.c.p=_;rw[r3,p4,hm.p,hm.mode.2.2]
structure Calm (s s':Scene):Prop where
 recs:∃rs:List Rec,s'.recs=s.recs++rs/\∀r∈rs,r.kind≠1/\r.kind≠7
 sent:∃ts:List (Int×Reply),s'.sent=s.sent++ts/\∀x∈ts,132<x.2.kind
theorem Calm.refl (s:Scene):Calm s s:=⟨⟨[],by simp,by simp⟩,⟨[],by simp,by simp⟩⟩
theorem Calm.trans {s t u:Scene} (h:Calm s t) (k:Calm t u):Calm s u:=by
 obtain⟨⟨rs,r1,r2⟩,⟨ts,t1,t2⟩⟩:=h;obtain⟨⟨qs,q1,q2⟩,⟨us,u1,u2⟩⟩:=k;exact⟨⟨rs++qs,by rw[q1,r1,List.append_assoc],λr hr=>(List.mem_append.1 hr).elim (r2 r) (q2 r)⟩,⟨ts++us,by rw[u1,t1,List.append_assoc],λx hx=>(List.mem_append.1 hx).elim (t2 x) (u2 x)⟩⟩
structure Kt (c c':Core):Prop where
 p:c'.p=c.p
 t:c'.t=c.t
 q:c'.q=c.q
 on:∀x,c'.tab.on x=c.tab.on x
 role:∀x,c'.tab.role x=c.tab.role x
 mode:c'.mode=c.mode
 bj:c'.bj=c.bj
 pt:c'.pt=c.pt
inductive Class (s s':Scene) (l:Int):Prop
 |rejected (e:Int) (he:e≠0) (hr:s'.recs=s.recs++[⟨1,l,0,s.c.t.epoch,e,0⟩]) (hs:s'.sent=s.sent) (hc:Kt s.c s'.c)
 |refused (n e:Int) (he:e≠0) (hr:s'.recs=s.recs++[⟨7,l,n,s.c.t.epoch,e,0⟩]) (hs:s'.sent=s.sent++[(l,{kind:=132,seq:=n,code:=e})]) (hc:Kt s.c s'.c)
 |done (r:Reply) (hr:129<=r.kind/\r.kind<=131) (rs:List Rec) (h1:s'.recs=s.recs++rs) (h2:∀r∈rs,r.kind≠1/\r.kind≠7) (xs ys:List (Int×Reply)) (h3:s'.sent=s.sent++(xs++(l,r)::ys)) (h4:∀x∈xs++ys,132<x.2.kind)
theorem Kt.refl (c:Core):Kt c c:=⟨rfl,rfl,rfl,λ_=>rfl,λ_=>rfl,rfl,rfl,rfl⟩
theorem Class.nt {T:Tab} {t:Scene} (k:Class ({s with c:={s.c with tab:=T}}:Scene) t l) (tD:∀x,T.on x=s.c.tab.on x) (hr:∀x,T.role x=s.c.tab.role x):Class s t l:=by
 cases k with
 |rejected e he mT hs hc=>exact .rejected e he mT hs ⟨hc.p,hc.t,hc.q,λx=>(hc.on x).trans (tD x),λx=>(hc.role x).trans (hr x),hc.mode,hc.bj,hc.pt⟩
 |refused n e he mT hs hc=>exact .refused n e he mT hs ⟨hc.p,hc.t,hc.q,λx=>(hc.on x).trans (tD x),λx=>(hc.role x).trans (hr x),hc.mode,hc.bj,hc.pt⟩
 |done r hr rs h1 h2 xs ys h3 h4=>exact .done r hr rs h1 h2 xs ys h3 h4
end Sd
namespace Sd
variable{C:Crypt}
def zM (C:Crypt) (c:Core):Core:=((⟨c,[],[]⟩:Scene).tick C).c
end Sd
namespace Sd
variable{C:Crypt} {s:Scene}
def Bd (n:Int):Prop:=-9223372036854775808<=n/\n<=9223372036854775807
def V5 (t:Timer):Prop:=Bd t.n/\Bd t.most
structure rW (t:Tab):Prop where
 hi:∀j,(t.ay (j+3)).on=false
 st:V5 t.aA.2
 ss:∀j,V5 (t.ay j).aH
structure ia (t:Tok):Prop where
 oa:V5 t.oa
 la:V5 t.la
def Ku (x:X4):Prop:=Bd x.a/\Bd x.b/\Bd x.c/\Bd x.d
structure PtX (p:Point):Prop where
 bx:Ku p.bx
 now:Ku p.now
structure Ext (c:Core):Prop where
 tab:rW c.tab
 t:ia c.t
 pt:PtX c.pt
 d:∀i,(c.doors i).many<=4294967295
 be:Bd c.beyond
theorem V6:Bd 0:=⟨by decide,by decide⟩
theorem OS:V5 Timer.zero:=⟨V6,V6⟩
theorem x40:Ku X4.zero:=⟨V6,V6,V6,V6⟩
theorem TG {n m:Int} (h:Bd n) (k:Bd m):Bd (sat n m):=by
 unfold Bd sat at*;split<;>omega
theorem zN {n a b:Int} (h:a<=n/\n<=b) (ha:-9223372036854775808<=a) (hb:b<=9223372036854775807):Bd n:=⟨by omega,by omega⟩
theorem nD {m:Int} (h:Bd m):V5 (Timer.start m):=⟨V6,by unfold Timer.start Bd at*;dsimp only;omega⟩
theorem rX {t:Timer} (h:V5 t):V5 t.step:=⟨TG h.1 h.2,h.2⟩
theorem Ext.eq {c c':Core} (h:Ext c) (h1:c'.tab=c.tab) (h2:c'.t=c.t) (h3:c'.pt=c.pt) (h4:c'.doors=c.doors) (h5:c'.beyond=c.beyond):Ext c':=
 ⟨h1▸h.tab,h2▸h.t,h3▸h.pt,h4▸h.d,h5▸h.be⟩
theorem Ext.new {p:Pol}:Ext (Core.new p):=⟨⟨λ_=>rfl,OS,λ_=>OS⟩,⟨OS,OS⟩,⟨x40,x40⟩,λ_=>show(0:Int)<=4294967295 by decide,V6⟩
theorem vB {t:Tok} {a b:Int}:ia (t.pass a b):=⟨OS,OS⟩
theorem nE {t:Tok} (h:ia t) {a:Int}:ia (t.bz a).1:=by
 unfold Tok.bz;split
 ·exact h
 split
 ·exact h
 split
 ·exact h
 exact vB
theorem TH {t:Tok} (h:ia t):ia t.bG:=⟨OS,h.la⟩
theorem ZI {p:Pol} (hp:cK p) {t:Tok} (h:ia t) {a b:Int} {th:Bool}:ia (t.make p a b th).1:=by
 unfold Tok.make;split
 ·exact h
 split
 ·exact h
 split
 ·exact h
 split
 ·exact h
 split
 ·exact h
 exact⟨nD (zN hp.offer (by decide) (by decide)),h.la⟩
theorem NR {t:Tok} (h:ia t) {a b:Int}:ia (t.accept a b).1:=by
 unfold Tok.accept;split
 ·exact h
 split
 ·exact h
 exact nE h
theorem ZJ {t:Tok} (h:ia t) {a:Int}:ia (t.fJ a).1:=by
 unfold Tok.fJ;split
 ·exact h
 exact TH h
theorem Kv {t:Tok} (h:ia t) {a:Int}:ia (t.drop a).1:=by
 unfold Tok.drop;split
 ·exact h
 exact TH h
theorem Kw {t:Tok} (h:ia t):ia t.tick.1:=by
 unfold Tok.tick;split
 ·exact h
 split
 ·exact⟨OS,h.la⟩
 exact⟨rX h.oa,h.la⟩
theorem TI {p:Pol} {t:Tok} {m:Int} {q:List Ask} {f:Int} {now:Bool} (h:ia t):ia (cv p t m q f now).1:=by
 unfold cv;split
 ·exact h
 split
 ·exact h
 split
 ·exact h
 split
 ·split
  ·exact h
  ·exact nE h
 split
 ·exact h
 exact h
theorem EL {t:Tok} (h:ia t) {q:List Ask}:ia (bg t q).1:=by
 unfold bg;split
 ·exact h
 split
 ·exact h
 exact nE h
theorem xN {t:Tok} (h:ia t) {q:List Ask} {f:Int}:ia (an t q f).1:=by
 unfold an;split
 ·exact h
 split
 ·exact h
 exact EL h
theorem BZ {p:Pol} (hp:cK p) {t:Tok} (h:ia t) {q:List Ask} {th:Bool}:ia (bM p t q th).1:=by
 unfold bM;split
 ·exact⟨h.oa,OS⟩
 have O7:V5 (if t.la.most=0 then Timer.start p.cY else t.la).step:=by
  split
  ·exact rX (nD (zN hp.cY (by decide) (by decide)))
  ·exact rX h.la
 dsimp only;generalize (if t.la.most=0 then Timer.start p.cY else t.la).step=la at*;have h1:ia {t with la:=la}:=⟨h.oa,O7⟩;split
 ·exact h1
 split
 ·exact vB
 split
 ·exact nE h1
 exact EL h1
theorem Ext.record {k a n e w:Int} (h:Ext s.c):Ext (s.record C k a n e w).c:=⟨h.tab,h.t,h.pt,h.d,h.be⟩
theorem Ext.hear {l:Int} {r:Reply} (h:Ext s.c):Ext (s.hear l r).c:=by rw[Scene.hear_c];exact h
theorem Ext.gone {l w e:Int} (h:Ext s.c):Ext (s.gone l w e).c:=h.hear
theorem Ext.tell {l:Int} {r:Reply} (h:Ext s.c):Ext (s.tell l r).c:=h
theorem Ext.done {l n:Int} (h:Ext s.c):Ext (s.done l n).c:=h
theorem Ext.refuse {l n e:Int} (h:Ext s.c):Ext (s.refuse C l n e).c:=Ext.record (s:=s.tell l _) h
theorem Ext.dp {l e:Int} (h:Ext s.c):Ext (s.dp C l e).c:=h.record
theorem Ext.goes {t:Tok} {how n:Int} (h:Ext s.c) (ht:ia t):Ext (s.goes C t how n).c:=by
 obtain⟨x,e⟩:=Scene.wM C s t how n;rw[e];exact⟨h.tab,ht,h.pt,h.d,h.be⟩
theorem Ext.leave {x:Int} (h:Ext s.c):Ext (s.leave C x).c:=by
 obtain⟨hd,e⟩:=A4 C s x;rw[e];exact⟨h.tab,Kv h.t,h.pt,h.d,h.be⟩
theorem Ext.bb {t:Tok} (h:Ext s.c) (ht:ia t):Ext (s.bb t).c:=⟨h.tab,ht,h.pt,h.d,h.be⟩
theorem Ext.EM {q:List Ask} (h:Ext s.c):Ext ({s with c:={s.c with q:=q}}:Scene).c:=⟨h.tab,h.t,h.pt,h.d,h.be⟩
theorem Ext.dH {m:Int} {y:Label} (h:Ext s.c):Ext (s.dH m y).c:=⟨h.tab,h.t,⟨x40,h.pt.now⟩,h.d,h.be⟩
theorem B9 {t:Tab} (h:rW t) {i:Nat} (hi:i<3) {x:bm} (hx:V5 x.aH):rW (t.dT i x) where
 hi:=by
  intro j;unfold Tab.dT;dsimp only;rw[if_neg (by omega)];exact h.hi j
 st:=h.st
 ss:=by
  intro j;unfold Tab.dT;dsimp only;split
  ·exact hx
  ·exact h.ss j
theorem ZK {t:Tab} (h:rW t) {l:Int} (hl:1<=l/\l<=3):rW (t.end_ l):=by
 unfold Tab.end_;split
 ·exact B9 h (by omega) OS
 ·exact h
theorem NS {p:Pol} (hp:cK p) {t:Tab} (h:rW t) {l r:Int} {key:Byt}:rW (Tab.br p t l r key).1:=by
 unfold Tab.br;split
 ·exact h
 split
 ·exact h
 exact B9 h (by omega) (nD (zN hp.bh (by decide) (by decide)))
theorem TJ {p:Pol} (hp:cK p) {t:Tab} (h:rW t) {l:Int} (hl:1<=l/\l<=3) {n:Nat} {f:Byt}:rW (Tab.take C p t l n f).1:=by
 unfold Tab.take;split
 ·exact h
 split
 ·exact h
 split
 ·exact h
 split
 ·exact h
 split
 ·exact h
 exact B9 h (by omega) (nD (zN hp.bh (by decide) (by decide)))
theorem HY {p:Pol} (hp:cK p) {t:Tab} (h:rW t):rW (t.dU p):=⟨h.hi,nD (zN hp.bh (by decide) (by decide)),h.ss⟩
theorem TK {t:Tab} (h:rW t):rW t.tick where
 hi:=by
  intro j;simp only[Tab.tick,h.hi j];simp[h.hi j]
 st:=by
  unfold Tab.tick;dsimp only;split
  ·split
   ·exact OS
   ·exact rX h.st
  ·exact h.st
 ss:=by
  intro j;unfold Tab.tick;dsimp only;split
  ·split
   ·exact OS
   ·exact rX (h.ss j)
  ·exact h.ss j
theorem rY {n a b:Int} (ha:Bd a) (hb:Bd b) (h:Bd n):Bd (oM n a b):=by
 unfold oM;split
 ·exact ha
 split
 ·exact hb
 exact h
theorem TM {p:Pol} (hp:cK p) {pt:Point} (h:PtX pt) {c:Int} {x:X4} (hx:Ku x) {y:Label}:PtX (pt.set p c x y) where
 bx:=by
  unfold Point.set;dsimp only;split
  ·exact x40
  ·have hm:=hp.most c.toNat (by omega);have h1:Bd (-(p.most c.toNat)):=⟨by omega,by omega⟩;have h2:Bd (p.most c.toNat):=⟨by omega,by omega⟩;exact⟨rY h1 h2 hx.1,rY h1 h2 hx.2.1,rY h1 h2 hx.2.2.1,rY h1 h2 hx.2.2.2⟩
 now:=h.now
theorem oh {a b r:Int} (ha:Bd a) (hb:Bd b):Bd (jf a b r):=by
 unfold jf Bd at*;split
 ·exact ha
 split
 ·split<;>omega
 ·split<;>omega
theorem ZL {p:Pol} {pt:Point} (h:PtX pt):PtX (pt.step p) where
 bx:=h.bx
 now:=⟨oh h.now.1 h.bx.1,oh h.now.2.1 h.bx.2.1,oh h.now.2.2.1 h.bx.2.2.1,oh h.now.2.2.2 h.bx.2.2.2⟩
theorem ZM {m:bW} {l:Int} (hl:1<=l/\l<=3) (hp:cK s.c.p) (hx:Ku m.x) (h:Ext s.c):Ext (s.u9 C l m).c:=by
 unfold Scene.u9;split
 ·exact h.done
 split
 ·unfold Scene.En;refine Ext.done (Ext.record (Ext.leave ?_));exact⟨ZK h.tab hl,h.t,h.pt,h.d,h.be⟩
 split
 ·unfold Scene.ask;dsimp only;split
  ·exact h.refuse
  refine Ext.done ?_;split
  ·exact Ext.goes (h.EM) (TI h.t)
  ·exact Ext.record (Ext.bb h.EM (TI h.t))
 split
 ·unfold Scene.offer;dsimp only;split
  ·exact h.refuse
  exact Ext.done (Ext.record (Ext.hear (Ext.bb h (ZI hp h.t))))
 split
 ·unfold Scene.accept;dsimp only;split
  ·exact h.refuse
  exact Ext.done (Ext.goes h (NR h.t))
 split
 ·unfold Scene.fJ;dsimp only;split
  ·exact h.refuse
  exact Ext.done (Ext.record (Ext.gone (Ext.bb h (ZJ h.t))))
 split
 ·unfold Scene.release;dsimp only;split
  ·exact h.refuse
  exact Ext.done (Ext.goes h.EM (xN h.t))
 split
 ·unfold Scene.command;dsimp only;split
  ·exact h.refuse
  refine Ext.done (Ext.record ?_);split
  ·exact⟨h.tab,h.t,h.pt,h.d,h.be⟩
  ·exact⟨h.tab,h.t,TM hp h.pt hx,h.d,h.be⟩
 ·exact h
theorem TN {l code:Int} {n:Nat} {f:Byt} (hx:∀n f m,C.take n f=some m->Ku m.x) (hl:1<=l/\l<=3) (hp:cK s.c.p) (h:Ext s.c):Ext (s.item C l code n f).c:=by
 unfold Scene.item;split
 ·exact h.dp
 split
 ·unfold Scene.gW;split
  ·exact h.dp
  split
  ·exact h.refuse
  dsimp only;split
  ·exact h.refuse
  refine Ext.record (Ext.tell ?_);refine⟨h.tab,h.t,h.pt,?_,h.be⟩;intro i;dsimp only;split
  ·dsimp only;omega
  ·exact h.d i
 split
 ·unfold Scene.prove;split
  ·exact h.dp
  split
  ·exact h.dp
  dsimp only;split
  ·exact h.refuse
  have h1:∀{b:Bool} {x:Byt},Ext ({s.c with doors:=λj=>if j=l.toNat-1 then⟨(s.c.doors (l.toNat-1)).many,b,x⟩else s.c.doors j}:Core):=by
   intro b x;refine⟨h.tab,h.t,h.pt,?_,h.be⟩;intro i;dsimp only;split
   ·exact h.d _
   ·exact h.d i
  split
  ·exact Ext.dp (s:=({s with c:=_}:Scene)) h1
  split
  ·exact Ext.refuse (s:=({s with c:=_}:Scene)) h1
  split
  ·exact Ext.refuse (s:=({s with c:=_}:Scene)) h1
  refine Ext.record (Ext.tell ?_);exact⟨NS hp h.tab,h.t,h.pt,(@h1 false λ_=>0).d,h.be⟩
 split
 ·exact h.dp
 ·rename_i tab m heq;have h1:rW tab:=by have:=TJ (C:=C) hp h.tab hl (n:=n) (f:=f);rw[heq]at this;exact this
  have hm:Ku m.x:=by
   unfold Tab.take at heq;split at heq
   ·cases heq
   split at heq
   ·cases heq
   split at heq
   ·cases heq
   ·rename_i m' Wz;split at heq
    ·cases heq
    split at heq
    ·cases heq
    cases heq;exact hx _ _ _ Wz
  exact ZM hl hp hm ⟨h1,h.t,h.pt,h.d,h.be⟩
theorem HZ {x:dS} (hx:Ku x.x) (hp:cK s.c.p) (h:Ext s.c):Ext (s.dU C x).c:=by
 have hs:Bd (kS s.c.p s.c.beyond x).1:=by
  unfold kS;split
  ·exact V6
  ·exact TG (by have:=h.be;unfold Bd at*;omega) (zN hp.oL (by decide) (by decide))
 unfold Scene.dU;split
 ·exact⟨h.tab,h.t,h.pt,h.d,V6⟩
 dsimp only;have h1:Ext ({s.c with samples:=sat s.c.samples 4294967295,tab:=s.c.tab.dU s.c.p,beyond:=(kS s.c.p s.c.beyond x).1}:Core):=⟨HY hp h.tab,h.t,h.pt,h.d,hs⟩;split
 ·split
  ·exact Ext.record (s:=({s with c:=_}:Scene)) h1
  ·exact Ext.goes ⟨h1.tab,h1.t,h1.pt,h1.d,h1.be⟩ (xN h.t)
 split
 ·split
  ·exact Ext.record (s:=({s with c:=_}:Scene)) h1
  ·exact Ext.record (s:=({s with c:=_}:Scene)) ⟨h1.tab,h1.t,TM hp h.pt hx,h1.d,h1.be⟩
 split
 ·split
  ·exact Ext.record (s:=({s with c:=_}:Scene)) h1
  ·exact Ext.goes (s:=({s with c:=_}:Scene)) h1 (nE h.t)
 ·exact h1
theorem B_ (q:List Ask):∀s:Scene,Ext s.c->Ext (q.foldl dE s).c:=by
 induction q with
 |nil=>intro s h;exact h
 |cons a q ih=>intro s h;exact ih _ (by rw[mf];exact⟨h.tab,h.t,h.pt,h.d,h.be⟩)
theorem H0 {bad:Bool} (h:Ext s.c):Ext (s.jg C bad).c:=by
 cases bad with
 |false=>exact⟨h.tab,⟨h.t.oa,h.t.la⟩,h.pt,h.d,h.be⟩
 |true=>
  rw[zL true rfl];refine Ext.dH (B_ _ _ ?_);have h0:Ext (s.bb {s.c.t with bad:=true}).c:=Ext.bb h ⟨h.t.oa,h.t.la⟩;split
  ·exact Ext.goes h0 vB
  ·exact Ext.bb h0 vB
theorem afb (xs:List Int):∀t:Tok,ia t->ia (lq t xs):=by
 induction xs with
 |nil=>intro t h;exact h
 |cons x xs ih=>
  intro t h;unfold lq at*;rw[List.foldl_cons];refine ih _ ?_;split
  ·exact Kv h
  ·exact h
theorem ZN (xs:List Int):∀s:Scene,Ext s.c->Ext (xs.foldl (h_ C) s).c:=by
 induction xs with
 |nil=>intro s h;exact h
 |cons x xs ih=>
  intro s h;refine ih _ ?_;obtain⟨hd,e⟩:=EJ C s x;rw[e];exact⟨h.tab,afb _ _ h.t,h.pt,h.d,h.be⟩
theorem NT (q:List Ask):∀s:Scene,Ext s.c->Ext (q.foldl (kA C) s).c:=by
 induction q with
 |nil=>intro s h;exact h
 |cons a q ih=>intro s h;exact ih _ (Ext.record (Ext.gone h))
theorem TO (hp:cK s.c.p) (h:Ext s.c):Ext (s.cY C).c:=by
 unfold Scene.cY;dsimp only;split
 ·exact Ext.bb h (BZ hp h.t)
 split
 ·exact Ext.dH (Ext.goes h.EM (BZ hp h.t))
 ·exact Ext.dH (Ext.goes h.EM (BZ hp h.t))
theorem TP (hi:Inv s.c) (h:Ext s.c):Ext (s.tick C).c:=by
 rw[vA];have h1:Ext (lr C s).c:=ZN _ _ ⟨TK h.tab,h.t,h.pt,h.d,h.be⟩;have h2:Ext (lu C (lr C s)).c:=by
  unfold lu;dsimp only;split
  ·exact Ext.record (Ext.gone (Ext.bb h1 (Kw h1.t)))
  ·exact Ext.bb h1 (Kw h1.t)
 have h3:Ext (rV C (lu C (lr C s))).c:=NT _ _ ⟨h2.tab,h2.t,h2.pt,h2.d,h2.be⟩;have hp:cK (rV C (lu C (lr C s))).c.p:=by rw[(TD (b:=True) hi).2.p];exact hi.p
 have h4:=TO (C:=C) hp h3;exact⟨h4.tab,h4.t,ZL h4.pt,h4.d,h4.be⟩
end Sd
namespace Sx
open Go Go.RowKit Go.BigFrame
theorem St.dup {ms:List Nat} {w0 w:World} {bs:List av} {b:av} (S:St ms w0 bs w) (hb:b∈bs) (hw:b.wr=false):St ms w0 (b::bs) w:=by
 refine St.mk' S.ch ?_ ?_ ?_
 ·intro x hx;rcases List.mem_cons.1 hx with rfl|hx
  ·exact S.at' hb
  ·exact S.at' hx
 ·intro x hx h;rcases List.mem_cons.1 hx with rfl|hx
  ·rw[hw]at h;cases h
  ·exact S.ql hx h
 ·refine List.pairwise_cons.2 ⟨?_,S.pw⟩;intro y hy;obtain⟨i,hi⟩:=List.getElem?_of_mem hb;obtain⟨j,hj⟩:=List.getElem?_of_mem hy;intro h;have hyw:y.wr=true:=by
   rcases h with h|h
   ·rw[hw]at h;cases h
   ·exact h
  have e_:j≠i:=λe=>by
   rw[e,hi]at hj;have:=Option.some.inj hj;rw[this]at hw;rw[hw]at hyw;cases hyw
  exact(S.apart j i y b hj hi e_ hyw).symm
end Sx
namespace Go.Proofs.YtggfpcggakghnaaGreatDoor
open Go Go.RowKit Go.BigFrame Sx Vx
variable{fr:Sd.Reply->Nat×Sd.Byt}
inductive LG (fr:Sd.Reply->Nat×Sd.Byt) where
 |cn (u:World)
 |core (g:Gh fr) (fB:List av)
 |row (r:aC)
instance:Bl (LG fr):=⟨λg=>match g with|.cn u=>du u|.core g fB=>g.F.B++fB|.row r=>r.bl⟩
mutual
def qf (n:Nat):V->V
 |.ptr i o=>.ptr (i+n) o
 |.sl i o m c=>.sl (i+n) o m c
 |.oN i o m c x=>.oN (i+n) o m c x
 |.pe i o j z k=>.pe (i+n) o j z k
 |.fn f a b=>.fn f (Kx n a) (Kx n b)
 |.CM t v=>.CM t (qf n v)
 |.agg l=>.agg (Kx n l)
 |.az l=>.az (Kx n l)
 |v=>v
def Kx (n:Nat):List V->List V
 |[]=>[]
 |v::l=>qf n v::Kx n l
end
theorem vC {ids xs:List Nat} (i:Nat):(ids++xs).getD (i+ids.length) 0=xs.getD i 0:=by
 simp[List.getD,List.getElem?_append_right (show ids.length<=i+ids.length by omega)]
mutual
theorem tS {ids xs:List Nat}:∀v:V,den (ids++xs) (qf ids.length v)=den xs v
 |.ptr i _=>by simp only[qf,den,vC]
 |.sl i _ _ _=>by simp only[qf,den,vC]
 |.oN i _ _ _ _=>by simp only[qf,den,vC]
 |.pe i _ _ _ _=>by simp only[qf,den,vC]
 |.fn _ a b=>by simp only[qf,den,vD a,vD b]
 |.CM _ v=>by simp only[qf,den,tS v]
 |.agg l=>by simp only[qf,den,Ca l]
 |.az l=>by simp only[qf,den,vD l]
 |.int _ _=>by simp[qf,den]
 |.bool _=>by simp[qf,den]
 |.dC _ _ _=>by simp[qf,den]
 |.arr _ _ _=>by simp[qf,den]
 |.j8 _ _ _ _=>by simp[qf,den]
 |.rest _=>by simp[qf,den]
 |.fp _ _ _=>by simp[qf,den]
 |.raw _=>by simp[qf,den]
theorem vD {ids xs:List Nat}:∀l:List V,ao (ids++xs) (Kx ids.length l)=ao xs l
 |[]=>by simp[Kx,ao]
 |v::l=>by simp only[Kx,ao,tS v,vD l]
theorem Ca {ids xs:List Nat}:∀l:List V,ab (ids++xs) (Kx ids.length l)=ab xs l
 |[]=>by simp[Kx,ab]
 |v::l=>by
  simp only[Kx,ab,Ca l];congr 1;have h:=tS (ids:=ids) (xs:=xs) v;cases v<;>simp only[qf,cl]at h⊢<;>first|rfl|rw[h]
end
def ZO (n:Nat):List VB->List VB
 |[]=>[]
 |b::l=>⟨b.wr,b.ty,Kx n b.c⟩::ZO n l
theorem Ky (n:Nat):∀l:List VB,(ZO n l).length=l.length
 |[]=>rfl
 |_::l=>by simp[ZO,Ky n l]
theorem Kz {ids xs:List Nat}:∀(is:List Nat) (bl:List VB),lits (ids++xs) is (ZO ids.length bl)=lits xs is bl
 |[],_=>by simp[lits]
 |_::_,[]=>by simp[lits,ZO]
 |i::is,b::bl=>by
  simp only[ZO,lits,Kz is bl];unfold aE;simp only[Ca]
abbrev LKb (fr:Sd.Reply->Nat×Sd.Byt) (k:LK):=V->(s':Sd.Scene)->bN fr (bA k s')->List av->List VB->Prop
abbrev LM (fr:Sd.Reply->Nat×Sd.Byt):=List V->(k:LK)->(s:Sd.Scene)->bN fr (bA k s)->LKb fr k->Prop
def eA (bl:List VB) (ic it:Nat) (k:LK) (s:Sd.Scene):List VB:=(bl.set ic (ew k it s)).set it (gP s)
def V7 (M:World->LM fr):gm (LG fr):=λargs bl ch K=>match args,ch with
 |.ptr ic 0::ar,.cn u::.core g fB::rest=>(match bl[ic]?with
  |some ⟨true,⟨105,(0,0)⟩,cc⟩=>(match w6 cc with
   |some x=>(match bl[x.it]?with
    |some ⟨true,⟨157,(0,0)⟩,tc⟩=>(match uR tc with
     |some y=>cond (cH 0 ar&&(dk bl.length bl&&(Nat.blt 1 ic&&(Nat.blt 1 x.it&&!(Nat.beq ic x.it)))))
      ((bl[0]?=some (aG g.d.k)/\bl[1]?=some (iA g.d.k)/\x=Cz g.d.k x.it (lP x y g.d g.dx g.sx)/\y.b=x.p.bh/\y.m=x.p.aR/\x.p.queue=g.d.k.most)/\
        M u ar g.d.k (lP x y g.d g.dx g.sx) g.F λvv s' F' fn ex=>K (qf bl.length vv) (eA bl ic x.it g.d.k s'++ex) (.cn u::.core (cB g.d.k s' F') (fn++fB)::rest)) False
     |none=>False)
    |_=>False)
   |none=>False)
  |_=>False)
 |_,_=>False
abbrev ck (a b:Nat):List Nat:=[1,0,a,b]
def rZ (f:FuncId) (M:World->LM fr):Prop:=∀(u:World) (ar:List V) (k:LK) (s:Sd.Scene) (F:bN fr (bA k s)) (Kb:LKb fr k) (a b:Nat) (R:List av) (ms:List Nat) (w0 w:World),cH 0 ar=true->s.c.p.queue=k.most->M u ar k s F Kb->
 St ms w0 (lits (ck a b) (ck a b) (fV k s)++(F.B++(du u++R))) w->
 aj prog f (ao (ck a b) (.ptr 2 0::ar)).toArray w λv w'=>∃(vv:V) (s':Sd.Scene) (F':bN fr (bA k s')) (fn:List av) (ex:List VB) (xs:List Nat),xs.length=ex.length/\den xs vv=v/\dk 0 ex=true/\Kb vv s' F' fn ex/\
  St ms w0 (lits (ck a b) (ck a b) (fV k s')++(lits xs xs ex++(F'.B++(fn++(du u++R))))) w'
theorem zO {ids:List Nat} {it a b:Nat} (n:Nat) {k:LK} {s:Sd.Scene} (h:ids.getD it 0=b):aE ids n (ew k it s)=aE (ck a b) n (ew k 3 s):=by
 have e:(ck a b).getD 3 0=b:=rfl;simp only[aE,ew,zB,Cz,ab,cl,den,h,e]
structure H9 (bl:List VB) (ic it:Nat) (k:LK) (s:Sd.Scene):Prop where
 h0:bl[0]?=some (aG k)
 h1:bl[1]?=some (iA k)
 hc:bl[ic]?=some (ew k it s)
 ht:bl[it]?=some (gP s)
theorem lv {ids:List Nat} {bl:List VB} {ic it:Nat} {k:LK} {s:Sd.Scene} (H:H9 bl ic it k s) (hg:Gl gS ids):
 ([0,1,ic,it].map λj=>aE ids (ids.getD j 0) (bl.getD j gK))=lits (ck (ids.getD ic 0) (ids.getD it 0)) (ck (ids.getD ic 0) (ids.getD it 0)) (fV k s):=by
 have g0:=(hg 1 0 rfl).2;have g1:=(hg 0 1 rfl).2;simp only[List.map_cons,List.map_nil,cG H.h0,cG H.h1,cG H.hc,cG H.ht,g0,g1,fV,lits];rw[cF (ids':=ck (ids.getD ic 0) (ids.getD it 0)) (hJ k),cF (ids':=ck (ids.getD ic 0) (ids.getD it 0)) (uy k),cF (ids':=ck (ids.getD ic 0) (ids.getD it 0)) (iW s),
  zO (a:=ids.getD ic 0) _ rfl]
theorem xO {bl:List VB} {ic it:Nat} {k:LK} {s:Sd.Scene} (H:H9 bl ic it k s) (h2:1<ic) (h3:1<it) (n3:ic≠it) (s':Sd.Scene):H9 (eA bl ic it k s') ic it k s':=by
 have l2:=bO H.hc;have l3:=bO H.ht;unfold eA;refine⟨?_,?_,?_,?_⟩
 ·rw[eG (by omega),eG (by omega)];exact H.h0
 ·rw[eG (by omega),eG (by omega)];exact H.h1
 ·rw[eG (by omega),nx l2]
 ·rw[nx (by simpa using l3)]
theorem pU {bl:List VB} {ids r:List Nat} {a b:Nat} {x y:VB} (hr:∀j∈r,j≠a/\j≠b):
 (r.map λj=>aE ids (ids.getD j 0) (((bl.set a x).set b y).getD j gK))=r.map λj=>aE ids (ids.getD j 0) (bl.getD j gK):=by
 apply List.map_congr_left;intro j hj;obtain⟨h1,h2⟩:=hr j hj;simp only[List.getD,List.getElem?_set];rw[if_neg (Ne.symm h2),if_neg (Ne.symm h1)]
theorem r_ {n:Nat} {b:VB} (hb:cH n b.c=true):∀(bl:List VB) (i:Nat),dk n bl=true->dk n (bl.set i b)=true
 |[],_,_=>by simp[dk]
 |c::l,0,h=>by simp only[dk,Bool.and_eq_true,List.set_cons_zero]at h⊢;exact⟨hb,h.2⟩
 |c::l,i+1,h=>by simp only[dk,Bool.and_eq_true,List.set_cons_succ]at h⊢;exact⟨h.1,r_ hb l i h.2⟩
theorem fc {ids ids':List Nat}:∀(xs:List Nat) (ex:List VB),dk 0 ex=true->lits ids xs ex=lits ids' xs ex
 |[],_,_=>by simp[lits]
 |_::_,[],_=>by simp[lits]
 |i::is,b::bl,h=>by
  simp only[dk,Bool.and_eq_true]at h;simp only[lits];rw[cF (ids':=ids') h.1,fc is bl h.2]
theorem EN {f:Nat} {M:World->LM fr} (h:rZ f M):Sound prog gS f (V7 M):=by
 intro args ids bl ch R ms w0 w K hg hl S hc;unfold V7 at hc;split at hc
 ·rename_i ic ar u g fB rest;split at hc
  ·rename_i cc OG;split at hc
   ·rename_i x hx;split at hc
    ·rename_i tc VW;split at hc
     ·rename_i y hy;cases hq:cH 0 ar&&(dk bl.length bl&&(Nat.blt 1 ic&&(Nat.blt 1 x.it&&!(Nat.beq ic x.it))))with
      |false=>rw[hq]at hc;exact hc.elim
      |true=>
       rw[hq]at hc;simp only[Bool.and_eq_true,Bool.not_eq_true',Nat.blt_eq]at hq;obtain⟨q0,qw,q2,q3,q6⟩:=hq;have n3:ic≠x.it:=λe=>by rw[e,Nat.beq_refl]at q6;cases q6
       obtain⟨⟨e3,e4,e5,e6,e7,e8⟩,hM⟩:=hc;obtain rfl:=nv hx;obtain rfl:=jz hy;have H:H9 bl ic x.it g.d.k (lP x y g.d g.dx g.sx):=by
        refine⟨e3,e4,?_,?_⟩
        ·rw[OG];congr 1;unfold ew;rw[<-e5]
        ·rw[VW];congr 1;unfold gP;have:y=VV (lP x y g.d g.dx g.sx):=by
          obtain⟨y1,y2,y3,y4,y5,y6,y7,y8⟩:=y;simp only at e6 e7;subst e6 e7;rfl
         rw[<-this]
       have l2:=bO H.hc;have l3:=bO H.ht;obtain⟨r,hr,hp⟩:=ux (bl:=bl) (ids:=ids) hl (is:=[0,1,ic,x.it]) (by simp;omega) (by
        intro i hi;simp only[List.mem_cons,List.not_mem_nil,or_false]at hi;rcases hi with rfl|rfl|rfl|rfl<;>omega)
       have dP:=hp bl rfl;rw[lv H hg]at dP;have S1:=S.perm (bs':=lits (ck (ids.getD ic 0) (ids.getD x.it 0)) (ck (ids.getD ic 0) (ids.getD x.it 0)) (fV g.d.k (lP x y g.d g.dx g.sx))++(g.F.B++(du u++((r.map λj=>aE ids (ids.getD j 0) (bl.getD j gK))++(fB++af rest R))))) (by
        refine(dP.append_right _).trans ?_;rw[List.append_assoc];refine List.Perm.append_left _ ?_;show((r.map λj=>aE ids (ids.getD j 0) (bl.getD j gK))++(du u++((g.F.B++fB)++af rest R))).Perm _;exact cj λf=>by simp only[List.countP_append];omega)
       have D_:=h u ar g.d.k (lP x y g.d g.dx g.sx) g.F _ _ _ _ ms w0 w q0 e8 hM S1;have a9:ao ids (.ptr ic 0::ar)=ao (ck (ids.getD ic 0) (ids.getD x.it 0)) (.ptr 2 0::ar):=by
        have a1:ao ids ar=ao [] ar:=by have:=dW (ids:=[]) (more:=ids) ar q0;simpa using this
        have a2:ao (ck (ids.getD ic 0) (ids.getD x.it 0)) ar=ao [] ar:=by have:=dW (ids:=[]) (more:=ck (ids.getD ic 0) (ids.getD x.it 0)) ar q0;simpa using this
        simp only[ao,den,a1,a2];rfl
       rw[a9];refine D_.mono ?_;rintro v w' ⟨vv,s',F',fn,ex,xs,ow,hvv,Zd,hK,S2⟩;refine⟨qf bl.length vv,xs,eA bl ic x.it g.d.k s'++ex,.cn u::.core (cB g.d.k s' F') (fn++fB)::rest,?_,?_,?_,hK⟩
       ·rw[<-hl,tS];exact hvv.symm
       ·simp[eA,hl,ow]
       ·have H':=xO H q2 q3 n3 s';have gy:=hp (eA bl ic x.it g.d.k s') (by simp[eA]);rw[lv H' hg]at gy;have w8:(r.map λj=>aE ids (ids.getD j 0) ((eA bl ic x.it g.d.k s').getD j gK))=r.map λj=>aE ids (ids.getD j 0) (bl.getD j gK):=by
         unfold eA;refine pU ?_;intro j hj;have:=hr j hj;simp only[List.mem_cons,List.not_mem_nil,or_false,not_or]at this;omega
        rw[w8]at gy;have gx:ids.length=(eA bl ic x.it g.d.k s').length:=by simp[eA,hl]
        have hw2:dk ids.length (eA bl ic x.it g.d.k s')=true:=by
         unfold eA;rw[<-hl]at qw l3;refine r_ ?_ _ _ (r_ ?_ _ _ qw)
         ·exact gY (Nat.zero_le _) _ (iW s')
         ·simp only[ew,zB,Cz,cH,fK,Bool.and_eq_true,Nat.blt_eq,Bool.true_and,Bool.and_true];exact l3
        rw[aI _ _ _ _ gx,aJ _ _ hw2,fc (ids':=xs) xs ex Zd];refine S2.perm ?_;show List.Perm _ ((lits ids ids (eA bl ic x.it g.d.k s')++lits xs xs ex)++(du u++((F'.B++(fn++fB))++af rest R)));refine List.Perm.trans ?_ ((gy.symm.append_right _).append_right _);exact cj λf=>by simp only[List.countP_append];omega
     ·exact hc.elim
    ·exact hc.elim
   ·exact hc.elim
  ·exact hc.elim
 ·exact hc.elim
theorem xP {f:Nat} {M:World->LM fr} (h:rZ f M):oP prog gS ⟨f,false,V7 M⟩:=⟨EN h,λe=>by cases e⟩
end Go.Proofs.YtggfpcggakghnaaGreatDoor
namespace Sx
open Go Go.RowKit Go.BigFrame
theorem St.Cy {ms:List Nat} {w0 w:World} {b:av} {bs:List av} (S:St ms w0 (b::bs) w):St ms w0 (⟨b.id,false,b.obj⟩::bs) w:=by
 refine St.mk' S.ch ?_ ?_ ?_
 ·intro x hx;rcases List.mem_cons.1 hx with rfl|hx
  ·exact S.at' (x:=b) (List.mem_cons_self)
  ·exact S.at' (List.mem_cons_of_mem _ hx)
 ·intro x hx h;rcases List.mem_cons.1 hx with rfl|hx
  ·cases h
  ·exact S.ql (List.mem_cons_of_mem _ hx) h
 ·have:=List.pairwise_cons.1 S.pw;refine List.pairwise_cons.2 ⟨?_,this.2⟩;intro y hy h;refine this.1 y hy ?_;rcases h with h|h
  ·cases h
  ·exact .inr h
end Sx
namespace Go.Proofs.YtggfpcggakghnaaGreatDoor
open Go Go.RowKit Go.BigFrame Sx Vx
variable{fr:Sd.Reply->Nat×Sd.Byt}
def fS (s:Sd.Scene):Sd.Scene:=⟨s.c,[],[]⟩
def H_ (l:List Sd.Rec) (j:Nat):List Value:=[.int .i64 (l.getD j default).kind,.int .i64 (l.getD j default).source,.int .i64 (l.getD j default).seq,.int .i64 (l.getD j default).epoch,.int .i64 (l.getD j default).code,.int .i64 (l.getD j default).how]
theorem EO:∀(l:List Sd.Rec),(List.range l.length).flatMap (H_ l)=oT l
 |[]=>rfl
 |r::l=>by
  rw[List.length_cons,List.range_succ_eq_map,List.flatMap_cons,List.flatMap_map];have e:(λj=>H_ (r::l) (Nat.succ j))=H_ l:=by funext j;rfl
  rw[e,EO l];rfl
def Ia (ty:TypeId) (z n:Nat) (g:Nat->List Value) (us:List Value):VB:=⟨false,ty,[.fp z n g,.rest us]⟩
theorem KA (ids:List Nat) (ty z n:Nat) (g:Nat->List Value) (us:List Value):ab ids (Ia ty z n g us).c=(List.range n).flatMap g++us:=by
 simp only[Ia,ab,cl,List.append_nil]
structure TQ where
 x:Option Addr
 n:Nat
 c:Nat
def nF (l:List (Int×Sd.Reply)) (fv:Nat->TQ) (j:Nat):List Value:=[.int .i64 (l.getD j default).1,.slice (fv j).x (fv j).n (fv j).c]
def mg (fr:Sd.Reply->Nat×Sd.Byt) (l:List (Int×Sd.Reply)) (fv:Nat->TQ) (fn:List av):Prop:=∀j,j<l.length->∃x c b,fv j=⟨x,(fr (l.getD j default).2).1,c⟩/\eK 5 (fr (l.getD j default).2).1 (fr (l.getD j default).2).2 x c b/\∀y∈b,y∈fn
theorem ZP {l:List (Int×Sd.Reply)} {so:List Value} {B:List av} (h:w5 fr l so B):∃fv,so=(List.range l.length).flatMap (nF l fv)/\mg fr l fv B:=by
 induction h with
 |nil=>exact⟨λ_=>⟨none,0,0⟩,rfl,λj hj=>absurd hj (by simp)⟩
 |@snoc l olds bl h k r x c b hb ih=>
  obtain⟨fv,e,hf⟩:=ih;refine⟨λj=>if j=l.length then⟨x,(fr r).1,c⟩else fv j,?_,?_⟩
  ·rw[List.length_append,List.length_singleton,List.range_succ,List.flatMap_append,e];congr 1
   ·simp only[List.flatMap_def];congr 1;apply List.map_congr_left;intro j hj;have hj:=List.mem_range.1 hj;unfold nF;dsimp only;rw[if_neg (show¬j=l.length by omega),List.getD_eq_getElem?_getD,List.getD_eq_getElem?_getD,List.getElem?_append_left hj]
   ·simp[nF,List.getD]
  ·intro j hj;by_cases h1:j=l.length
   ·subst h1;have e2:(l++[(k,r)]).getD l.length default=(k,r):=by simp[List.getD]
    rw[e2];exact⟨x,c,b,by simp,hb,λy hy=>by simp[hy]⟩
   ·have Of:j<l.length:=by simp at hj;omega
    obtain⟨x',c',b',h2,h3,h4⟩:=hf j Of;have e2:(l++[(k,r)]).getD j default=l.getD j default:=by rw[List.getD_eq_getElem?_getD,List.getD_eq_getElem?_getD,List.getElem?_append_left Of]
    rw[e2];exact⟨x',c',b',by simp only[if_neg h1];exact h2,h3,λy hy=>by simp[h4 y hy]⟩
def TT (s:Sd.Scene) (vs vr:V):V:=.agg [.int .i64 s.c.mode,.int .i64 s.c.pt.cls,.int .i64 s.c.pt.now.a,.int .i64 s.c.pt.now.b,.int .i64 s.c.pt.now.c,.int .i64 s.c.pt.now.d,.int .i64 s.c.bj.mD,.int .i64 s.c.bj.source,.int .i64 s.c.bj.seq,
 .int .i64 s.c.pt.cX.mD,.int .i64 s.c.pt.cX.source,.int .i64 s.c.pt.cX.seq,vs,vr,.dC .u8 32 s.c.head]
structure TR where
 xs:Option Addr
 cs:Nat
 ts:Nat
 us:List Value
 fv:Nat->TQ
 xr:Option Addr
 cr:Nat
 tr:Nat
 ur:List Value
def TR.sB (r:TR) (s:Sd.Scene):VB:=Ia r.ts 2 s.sent.length (nF s.sent r.fv) r.us
def TR.rB (r:TR) (s:Sd.Scene):VB:=Ia r.tr 6 s.recs.length (H_ s.recs) r.ur
def TR.v (r:TR) (s:Sd.Scene) (i:Nat):V:=TT s (.oN i 0 s.sent.length r.cs r.xs) (.oN (i+1) 0 s.recs.length r.cr r.xr)
def xQ (k:LK) (sv:Sd.Scene) (K:LKb fr k):Prop:=∀(s':Sd.Scene),s'=sv->∀(r:TR) (fn:List av) (F0:bN fr (bA k (fS s'))),cC=F0.vs->cC=F0.vr->mg fr s'.sent r.fv fn->K (r.v s' 0) (fS s') F0 fn [r.sB s',r.rB s']
theorem ZQ {k:LK} {s':Sd.Scene} (F':bN fr (bA k s')):∃F0:bN fr (bA k (fS s')),cC=F0.vs/\cC=F0.vr/\F0.B=F'.Bq++F'.Bk:=
 ⟨⟨none,0,none,0,F'.Bq,[],[],[],F'.Bk,[],F'.hq,iO 6 75,iO 2 85,.nil,F'.hk⟩,rfl,rfl,rfl⟩
theorem KB {ms:List Nat} {w0 w:World} {z T n c:Nat} {olds:List Value} {x:Option Addr} {B R:List av} {k:LK} {g:Nat->List Value} (h:fa z T olds x n c B) (S:St ms w0 (B++R) w) (gd:(⟨1,false,.cells (ab [] (aG k).c).toArray k.tg (0,0)⟩:av)∈R) (hg:olds=(List.range n).flatMap g):
 ∃(i ty:Nat) (us:List Value),Value.slice x n c=.slice (bif Nat.beq n 0 then x else some ⟨i,0,none⟩) n c/\St ms w0 (⟨i,false,.cells ((List.range n).flatMap g++us).toArray ty (0,0)⟩::R) w:=by
 rcases h.2.2 with⟨rfl,rfl,rfl,rfl⟩|⟨b,tail,rfl,rfl,_⟩
 ·exact⟨1,k.tg,ab [] (aG k).c,rfl,by simpa using S.dup gd rfl⟩
 ·refine⟨b,T,tail,?_,?_⟩
  ·cases Nat.beq n 0<;>rfl
  ·rw[<-hg];exact S.Cy
theorem om {f n:Nat} {M:World->LM fr} {L:List (dI (Gh fr))} (hL:ai prog gS L)
 (h:∀(u:World) (ar:List V) (k:LK) (s:Sd.Scene) (F:bN fr (bA k s)) (Kb:LKb fr k),cH 0 ar=true->s.c.p.queue=k.most->M u ar k s F Kb->cJ (dR prog gS L) n f (.ptr 2 0::ar) (fV k s) [cB k s F] (uz k s λs' F'=>xQ k s' Kb)):rZ f M:=by
 intro u ar k s F Kb a b R0 ms w0 w h0 hq hM S;generalize hR:du u++R0=R at S⊢;have hg:Gl gS (ck a b):=by
  intro g i iX;unfold gS at iX;split at iX
  ·obtain rfl:=Option.some.inj iX;exact⟨by simp,rfl⟩
  ·obtain rfl:=Option.some.inj iX;exact⟨by simp,rfl⟩
  ·cases iX
 refine(bw hL.T hL.Q n (C:=dR prog gS L) (ids:=ck a b) (bl:=fV k s) (ch:=[cB k s F]) (R:=R) (ms:=ms) (w0:=w0) (w:=w) hg rfl (by
  have e:af [cB k s F] R=F.B++R:=rfl;rw[e];exact S) (h u ar k s F Kb h0 hq hM)).mono ?_
 rintro v w' ⟨x,more,bl',ch',rfl,h1,S',s',F',rfl,hb,rfl,hT⟩;have hl4:(fV k s').length=4:=rfl;have gz:bl'=fV k s'++bl'.drop 4:=by rw[<-hb,List.take_append_drop]
 rw[gz]at S';have e2:lits (ck a b++more) (ck a b++more) (fV k s'++bl'.drop 4)=lits (ck a b) (ck a b) (fV k s')++lits (ck a b++more) more (bl'.drop 4):=by
  rw[aI _ _ _ _ (by rw[hl4];rfl)];rw[aJ (ids:=ck a b) (more:=more) (ck a b) (fV k s') rfl]
 rw[e2]at S';obtain⟨F0,v1,v2,hB⟩:=ZQ F';have e3:af [cB k s' F'] R=F'.Br++(F'.Bs++(F'.Bf++(F'.Bq++F'.Bk)))++R:=rfl;rw[e3]at S';have mK:fV k (fS s')=fV k s':=rfl;have S1:St ms w0 (F'.Br++(F'.Bs++(lits (ck a b) (ck a b) (fV k (fS s'))++(F0.B++(F'.Bf++R))))) w':=by
  rw[mK,hB];have S2:St ms w0 (lits (ck a b) (ck a b) (fV k s')++(F'.Br++(F'.Bs++(F'.Bf++(F'.Bq++F'.Bk)))++R)) w':=by
   refine S'.sub ?_;simp only[List.append_assoc];exact List.Sublist.append_left (List.sublist_append_right _ _) _
  exact S2.perm (cj λf=>by simp only[List.countP_append];omega)
 have gd:(⟨1,false,.cells (ab [] (aG k).c).toArray k.tg (0,0)⟩:av)∈lits (ck a b) (ck a b) (fV k (fS s')):=by
  have:aE (ck a b) 1 (aG k)=aE [] 1 (aG k):=cF (hJ k);show _∈aE (ck a b) 1 (aG k)::_;rw[this];exact List.mem_cons_self
 obtain⟨fv,hso,hfr⟩:=ZP F'.hf;have S2:=S1.perm (bs':=F'.Bs++(F'.Br++(lits (ck a b) (ck a b) (fV k (fS s'))++(F0.B++(F'.Bf++R))))) (cj λf=>by simp only[List.countP_append];omega);obtain⟨i1,t1,u1,q1,S3⟩:=KB (k:=k) F'.hs S2 (by simp[gd]) hso;have S3':St ms w0 (⟨i1,false,.cells ((List.range s'.sent.length).flatMap (nF s'.sent fv)++u1).toArray t1 (0,0)⟩::(F'.Br++(lits (ck a b) (ck a b) (fV k (fS s'))++(F0.B++(F'.Bf++R))))) w':=S3;have S4:=S3'.perm (bs':=F'.Br++(⟨i1,false,.cells ((List.range s'.sent.length).flatMap (nF s'.sent fv)++u1).toArray t1 (0,0)⟩::(lits (ck a b) (ck a b) (fV k (fS s'))++(F0.B++(F'.Bf++R))))) (cj λf=>by simp only[List.countP_append,List.countP_cons];omega);obtain⟨i2,t2,u2,q2,S5⟩:=KB (k:=k) F'.hr S4 (by simp[gd]) (EO s'.recs).symm
 let r:TR:=⟨F'.xs,F'.cs,t1,u1,fv,F'.xr,F'.cr,t2,u2⟩
 refine⟨_,_,F0,F'.Bf,_,[i1,i2],rfl,?_,rfl,hT _ rfl r F'.Bf F0 v1 v2 hfr,?_⟩
 ·simp only[TR.v,TT,EI,bN.vs,bN.vr,den,ab,cl];have e1:Value.slice F'.xs (bA k s').sent.length F'.cs=_:=q1;have e2:Value.slice F'.xr (bA k s').recs.length F'.cr=_:=q2;rw[e1,e2];rfl
 ·have e1:lits [i1,i2] [i1,i2] [r.sB s',r.rB s']=[⟨i1,false,.cells ((List.range s'.sent.length).flatMap (nF s'.sent fv)++u1).toArray t1 (0,0)⟩,⟨i2,false,.cells ((List.range s'.recs.length).flatMap (H_ s'.recs)++u2).toArray t2 (0,0)⟩]:=by
   simp only[lits,aE,TR.rB,TR.sB,KA,r];rfl
  rw[e1];have S6:St ms w0 (⟨i2,false,.cells ((List.range s'.recs.length).flatMap (H_ s'.recs)++u2).toArray t2 (0,0)⟩::(⟨i1,false,.cells ((List.range s'.sent.length).flatMap (nF s'.sent fv)++u1).toArray t1 (0,0)⟩::(lits (ck a b) (ck a b) (fV k (fS s'))++(F0.B++(F'.Bf++R))))) w':=S5;refine S6.perm ?_;exact cj λf=>by simp only[List.countP_append,List.countP_cons,List.countP_nil];omega
structure bd (k:LK) (s:Sd.Scene):Prop where
 i:Sd.Inv s.c
 x:Sd.Ext s.c
 key:∀i,i<4->1<=k.kn i/\k.kn i<=64
 ke:∀i,i<4->s.c.p.k i=(k.kn i,k.kf i)
 e1:s.sent=[]
 e2:s.recs=[]
theorem bd.rm {k:LK} {s:Sd.Scene} (h:bd k s) (n:Nat) (hn:n<=1000):Rm s n:=⟨by rw[h.e1];simpa using hn,by rw[h.e2];simpa using hn⟩
theorem bd.tb {k:LK} {s:Sd.Scene} (h:bd k s):TB s.c.t:=⟨h.i.tok.holder,h.i.eW⟩
theorem bd.tk {k:LK} {s:Sd.Scene} (h:bd k s):TkP s where
 c:=⟨h.i.p,h.tb,h.x.t.oa.1,h.x.t.oa.2,h.x.t.la.1,h.x.t.la.2,by rcases h.i.tok.offer with e|e<;>omega,
  λa ha=>by
   obtain⟨_,h1,h2,_,_,h3,h4,h5⟩:=h.i.q.each a ha;have:=h.i.p.ask;exact⟨⟨by omega,by omega⟩,⟨by omega,by omega⟩,⟨by omega,by omega⟩⟩,
  ⟨h.x.pt.bx.1,h.x.pt.bx.2.1,h.x.pt.bx.2.2.1,h.x.pt.bx.2.2.2,h.x.pt.now.1,h.x.pt.now.2.1,h.x.pt.now.2.2.1,h.x.pt.now.2.2.2⟩⟩
 r:=h.rm 28 (by decide)
 h:=h.x.tab.hi
 b:=⟨h.x.tab.st,h.x.tab.ss 0,h.x.tab.ss 1,h.x.tab.ss 2⟩
def cQ (C:Sd.Crypt) (s:Sd.Scene) (l code:Int) (n:Nat) (f:Sd.Byt):Sd.Scene:=if 1<=l/\l<=3 then s.item C l code n f else s
def TU (C:Sd.Crypt):LM fr:=λar k s F K=>match ar with
 |[.int .i64 l,.agg [.int .i64 code,.raw vp]]=>(bd k s/\cC=F.vs/\cC=F.vr/\vp=ei k/\k.pn<=58/\By k.pf)/\xQ k (cQ C s l code k.pn k.pf) K
 |_=>False
theorem ZR {k:LK} {s:Sd.Scene} {F:bN fr (bA k s)} (hq:s.c.p.queue=k.most) (h1:cC=F.vs) (h2:cC=F.vr):Ts k s F:=⟨h1,h2,rfl,rfl,rfl,rfl,rfl,hq⟩
section
variable(k:LK) (s:Sd.Scene) (F:bN fr (bA k s)) (Kb:(s':Sd.Scene)->bN fr (bA k s')->Prop)
end
end Go.Proofs.YtggfpcggakghnaaGreatDoor
namespace Go.Proofs.YtggfpcggakghnaaGreatDoor
open Go Go.RowKit Go.BigFrame Sx Vx
variable{fr:Sd.Reply->Nat×Sd.Byt}
section
variable(ht:Body (fr:=fr) 147 bV)
include ht
theorem Ie:rZ (fr:=fr) 24 (λ_=>TU (ah aT)):=by
 refine om (n:=60) (Kn ht) ?_;intro u ar k s F Kb h0 hq hM;unfold TU at hM;split at hM
 ·rename_i l code vp;have hC:=hM.1.1;have v1:=hM.1.2.1;have v2:=hM.1.2.2.1;have p1:=hM.1.2.2.2.2.1;have p2:=hM.1.2.2.2.2.2;have hT:=hM.2;rw[hM.1.2.2.2.1,Tu];unfold ajh;have OJ:¬(1<=l/\l<=3)->uz k s (λs' F'=>xQ k s' Kb) (.agg (EI s cC cC)) (fV k s) [cB k s F]:=λh=>⟨s,F,by rw[<-v1,<-v2],rfl,rfl,by unfold cQ at hT;rw[if_neg h]at hT;exact hT⟩;refine aU (λe1=>aU (λe2=>?_) (λe2=>OJ (by simp at e1 e2;omega))) (λe1=>OJ (by simp at e1;omega));have hl:1<=l/\l<=3:=by simp at e1 e2;omega
  unfold cQ at hT;rw[if_pos hl]at hT;have hd:∀i,i<3->(s.c.doors i).many<=9223372036854775807:=λi _=>by have:=hC.x.d i;omega
  exact⟨ZR hq v1 v2,fC (M:=EE (ah aT)) ⟨⟨rfl,⟨hC.rm 8 (by decide),hC.i,hl,hd,hC.key,hC.ke,p1,p2⟩⟩,λF'=>⟨_,F',rfl,rfl,rfl,hT⟩⟩⟩
 ·exact hM.elim
end
def yT (l:List Sd.Ask) (j:Nat):List Value:=[.int .i64 (l.getD j default).source]
theorem EP:∀(l:List Sd.Ask) (ids:List Nat),(List.range l.length).flatMap (yT l)=ab ids (xJ l)
 |[],_=>rfl
 |r::l,ids=>by
  rw[List.length_cons,List.range_succ_eq_map,List.flatMap_cons,List.flatMap_map];have e:(λj=>yT (r::l) (Nat.succ j))=yT l:=by funext j;rfl
  rw[e,EP l ids];rfl
def ajk (k:LK) (s:Sd.Scene) (F:bN fr (bA k s)) (K:LKb fr k):Prop:=
 ∀(x:Option Addr) (c ty:Nat) (us:List Value),K (.agg (oW s (.oN 0 0 s.c.q.length c x))) s F [] [Ia ty 1 s.c.q.length (yT s.c.q) us]
def Cd:LM fr:=λar k s F K=>match ar with
 |[]=>ajk k s F K
 |_=>False
theorem Ig (l:List Sd.Ask) (u:List Value):dk 0 [HT l u]=true:=by
 have:∀l:List Sd.Ask,cH 0 (xJ l++[.rest u])=true:=by
  intro l;induction l with
  |nil=>rfl
  |cons a l ih=>simp only[xJ,List.cons_append,cH,fK,ih,Bool.and_self]
 simp only[dk,HT,this,Bool.and_self]
theorem mh {Q:Prop} (hq:Q):∀(n j:Nat),n+j<=5->ZD n j Q
 |0,_,_=>hq
 |n+1,j,h=>⟨trivial,⟨by omega,by omega⟩,trivial,trivial,mh hq n (j+1) (by omega)⟩
theorem xT (ht:Body (fr:=fr) 147 bV):rZ (fr:=fr) 14 (λ_=>Cd (fr:=fr)):=by
 intro u0 ar k s F Kb a b R0 ms w0 w h0 hq hM S;generalize hR:du u0++R0=R at S⊢;unfold Cd at hM;split at hM
 ·have hg:Gl gS (ck a b):=by
   intro g i iX;unfold gS at iX;split at iX
   ·obtain rfl:=Option.some.inj iX;exact⟨by simp,rfl⟩
   ·obtain rfl:=Option.some.inj iX;exact⟨by simp,rfl⟩
   ·cases iX
  let K:VK (Gh fr):=λv bl ch=>ch=[cB k s F]/\((s.c.q=[]/\v=.agg (oW s (.raw cC))/\bl=fV k s)\/(s.c.q≠[]/\∃c u,v=.agg (oW s (.sl 4 0 s.c.q.length c))/\bl=fV k s++[HT s.c.q u]))
  have k0:s.c.q=[]->K (.agg (oW s (.raw cC))) (fV k s) [cB k s F]:=λe=>⟨rfl,.inl ⟨e,rfl,rfl⟩⟩;have k1:s.c.q≠[]->∀c u,K (.agg (oW s (.sl 4 0 s.c.q.length c))) (fV k s++[HT s.c.q u]) [cB k s F]:=λe c u=>⟨rfl,.inr ⟨e,c,u,rfl,rfl⟩⟩;have fU:cJ (mL prog gS (L8 fr (ah aT)) (PZ prog) vf) 60 14 [.ptr 2 0] (fV k s) [cB k s F] (cP 4 K):=by
   rw[ZE];refine⟨rfl,λe x c=>mh (k0 e) 5 0 (by decide),λa1 e c t c1 u1 _ _=>?_,λa1 b1 e c t c1 u1 h1 h2=>?_,λa1 b1 d1 e c t c1 u1 h1 h2=>?_⟩
   ·have:=k1 (by rw[e];simp) c1 u1;rw[e]at this;exact mh this 5 0 (by decide)
   ·have hk:=k1 (by rw[e];simp);rw[e]at hk;exact⟨⟨h1,h2⟩,λc2 u2 _ _=>mh (hk c2 u2) 5 0 (by decide),λc2 u2 _ _=>mh (hk c2 u2) 5 0 (by decide)⟩
   ·have hk:=k1 (by rw[e];simp);rw[e]at hk;exact⟨⟨h1,h2⟩,λc2 u2 g1 g2=>⟨⟨g1,g2⟩,λc3 u3 _ _=>mh (hk c3 u3) 5 0 (by decide),λc3 u3 _ _=>mh (hk c3 u3) 5 0 (by decide)⟩,λc2 u2 g1 g2=>⟨⟨g1,g2⟩,λc3 u3 _ _=>mh (hk c3 u3) 5 0 (by decide),λc3 u3 _ _=>mh (hk c3 u3) 5 0 (by decide)⟩⟩
  refine(bw (xp aT ht).T (xp aT ht).Q 60 (C:=mL prog gS (L8 fr (ah aT)) (PZ prog) vf) (ids:=ck a b) (bl:=fV k s) (ch:=[cB k s F]) (R:=R) (ms:=ms) (w0:=w0) (w:=w) hg rfl (by
   have e:af [cB k s F] R=F.B++R:=rfl;rw[e];exact S) fU).mono ?_
  rintro v w' ⟨x,more,bl',ch',rfl,h1,S',hK⟩;obtain⟨v2,aP,bl2,hv,gx,S2,rfl,Mx⟩:=c9 (n0:=4) h1 (by simp) S' hK;have ht4:(ck a b++more).take 4=ck a b:=rfl;rw[ht4]at hv gx S2;have eR:af [cB k s F] R=F.B++R:=rfl;rw[eR]at S2;rw[hv];have j7:∀(i ty:Nat) (us:List Value),lits [i] [i] [Ia ty 1 s.c.q.length (yT s.c.q) us]=[⟨i,false,.cells ((List.range s.c.q.length).flatMap (yT s.c.q)++us).toArray ty (0,0)⟩]:=λi ty us=>by
   simp only[lits,aE,KA];rfl
  rcases Mx with⟨e,rfl,rfl⟩|⟨e,c,u,rfl,rfl⟩
  ·obtain rfl:aP=[]:=List.eq_nil_of_length_eq_zero (by simpa[fV]using gx);refine⟨_,s,F,[],_,[1],rfl,?_,rfl,hM none 0 k.tg (ab [] (aG k).c),?_⟩
   ·simp only[oW,oF,rK,den,ab,cl,List.append_nil,List.cons_append,List.nil_append,e];rfl
   ·simp only[List.append_nil]at S2;have S3:=S2.dup (b:=aE [0] 1 (aG k)) (by
     refine List.mem_append_left _ ?_;rw[cF (ids':=ck a b) (hJ k)];exact List.mem_cons_self) rfl
    rw[j7];have e2:(⟨1,false,.cells ((List.range s.c.q.length).flatMap (yT s.c.q)++ab [] (aG k).c).toArray k.tg (0,0)⟩:av)=aE [0] 1 (aG k):=by
     rw[e,cF (ids':=[]) (hJ k)];rfl
    rw[e2];exact S3.perm List.perm_middle.symm
  ·match aP,gx with
   |[x],_=>
    refine⟨_,s,F,[],_,[x],rfl,?_,rfl,hM none c 3 u,?_⟩
    ·have hn:Nat.beq s.c.q.length 0=false:=by
      cases hb:Nat.beq s.c.q.length 0 with
      |false=>rfl
      |true=>exact absurd (List.eq_nil_of_length_eq_zero (Nat.eq_of_beq_eq_true hb)) e
     have hg4:(ck a b++[x]).getD 4 0=x:=rfl;have hg1:([x]:List Nat).getD 0 0=x:=rfl;simp only[oW,oF,rK,den,ab,cl,List.append_nil,List.cons_append,List.nil_append,hn,cond_false,hg4,hg1];rfl
    ·have e2:lits (ck a b++[x]) (ck a b++[x]) (fV k s++[HT s.c.q u])=lits (ck a b) (ck a b) (fV k s)++[⟨x,true,.cells ((List.range s.c.q.length).flatMap (yT s.c.q)++u).toArray 3 (0,0)⟩]:=by
      rw[aI _ _ _ _ rfl,aJ (ids:=ck a b) (more:=[x]) (ck a b) (fV k s) rfl,fc (ids':=[x]) [x] _ (Ig _ _)];simp only[lits,aE,HT,bo,ab,cl,List.append_nil,EP s.c.q [x]]
     rw[e2]at S2;have S3:=(S2.perm (bs':=⟨x,true,.cells ((List.range s.c.q.length).flatMap (yT s.c.q)++u).toArray 3 (0,0)⟩::(lits (ck a b) (ck a b) (fV k s)++(F.B++R))) (cj λf=>by simp only[List.countP_append,List.countP_cons,List.countP_nil];omega)).Cy;rw[j7];exact S3.perm (cj λf=>by simp only[List.countP_append,List.countP_cons,List.countP_nil];omega)
   |[],h=>simp[fV]at h
   |_::_::_,h=>simp[fV]at h
 ·exact hM.elim
theorem ZS (d:Fd) (h:(∃i,i<4/\d=fX i)\/∀v m,(d.set v m).x=m.x):∀v,d.low<=v->v<=d.high->∀m:Sd.bW,Sd.Ku m.x->Sd.Ku (d.set v m).x:=by
 intro v h1 h2 m hm;rcases h with⟨i,hi,rfl⟩|h
 ·have hv:Sd.Bd v:=⟨by have:(-32768:Int)<=v:=h1;omega,by have:v<=(32767:Int):=h2;omega⟩;have:i=0\/i=1\/i=2\/i=3:=by omega
  rcases this with rfl|rfl|rfl|rfl
  ·exact⟨hv,hm.2.1,hm.2.2.1,hm.2.2.2⟩
  ·exact⟨hm.1,hv,hm.2.2.1,hm.2.2.2⟩
  ·exact⟨hm.1,hm.2.1,hv,hm.2.2.2⟩
  ·exact⟨hm.1,hm.2.1,hm.2.2.1,hv⟩
 ·rw[h];exact hm
theorem ajl {n:Nat} {f:Nat->Int} {m:Sd.bW} (h:aT n f=some m):Sd.Ku m.x:=by
 unfold aT at h;split at h
 ·cases h
 split at h
 ·rename_i l hl;refine rQ (λm=>Sd.Ku m.x) l 1 _ m ?_ Sd.x40 h;intro d hd;refine ZS d ?_;have fx:∀i,i<4->(∃j,j<4/\fX i=fX j)\/∀v m,((fX i).set v m).x=m.x:=λi hi=>.inl ⟨i,hi,rfl⟩;have b0:=fx 0 (by decide);have b1:=fx 1 (by decide);have b2:=fx 2 (by decide);have b3:=fx 3 (by decide)
  have fo:∀d:Fd,(∀v m,(d.set v m).x=m.x)->(∃i,i<4/\d=fX i)\/∀v m,(d.set v m).x=m.x:=λd h=>.inr h;have a1:=fo oS λ_ _=>rfl;have a2:=fo ig λ_ _=>rfl;have a3:=fo rN λ_ _=>rfl;have a4:=fo gf λ_ _=>rfl;have a5:=fo rj λ_ _=>rfl;have a6:=fo yQ λ_ _=>rfl;have a7:=fo D0 λ_ _=>rfl
  unfold kz at hl
  repeat' split at hl
  all_goals first|(cases hl;done)|(obtain rfl:=Option.some.inj hl;simp at hd;rcases hd with rfl|rfl|rfl|rfl|rfl|rfl|rfl<;>assumption)|(obtain rfl:=Option.some.inj hl;simp at hd;rcases hd with rfl|rfl|rfl|rfl|rfl|rfl<;>assumption)|(obtain rfl:=Option.some.inj hl;simp at hd;rcases hd with rfl|rfl|rfl|rfl|rfl<;>assumption)|(obtain rfl:=Option.some.inj hl;simp at hd;rcases hd with rfl|rfl|rfl|rfl<;>assumption)|(obtain rfl:=Option.some.inj hl;simp at hd;rcases hd with rfl|rfl|rfl<;>assumption)|(obtain rfl:=Option.some.inj hl;simp at hd;rcases hd with rfl|rfl<;>assumption)|(obtain rfl:=Option.some.inj hl;simp at hd;subst hd;assumption)|(obtain rfl:=Option.some.inj hl;simp at hd)
 ·cases h
section
variable{k:LK} {s:Sd.Scene} {b:Prop}
theorem ajm {C:Sd.Crypt} {s':Sd.Scene} {kind l:Int} (e:Sd.l5 C b s s' kind l):s'.c.p=s.c.p:=by
 rcases e.GN with h|⟨how,h,_⟩
 ·exact h.p
 ·exact h.p
theorem bd.of {C:Sd.Crypt} {s':Sd.Scene} {kind l:Int} (h:bd k s) (e:Sd.l5 C b s s' kind l) (x:Sd.Ext s'.c):bd k (fS s'):=⟨e.1,x,h.key,λi hi=>by show s'.c.p.k i=_;rw[ajm e];exact h.ke i hi,rfl,rfl⟩
theorem bd.tick (h:bd k s):bd k (fS (s.tick (ah aT))):=h.of (b:=False) (Sd.TF h.i).1 (Sd.TP h.i h.x)
theorem bd.jg (h:bd k s) (x:Bool):bd k (fS (s.jg (ah aT) x)):=h.of (b:=False) (Sd.HV h.i) (Sd.H0 h.x)
theorem bd.dU (h:bd k s) {x:Sd.dS} (hx:Sd.Ku x.x):bd k (fS (s.dU (ah aT) x)):=h.of (b:=False) (Sd.HU h.i) (Sd.HZ hx h.i.p h.x)
theorem bd.item (h:bd k s) (l code:Int) (n:Nat) (f:Sd.Byt):bd k (fS (cQ (ah aT) s l code n f)):=by
 unfold cQ;split
 ·rename_i hl;exact h.of (b:=False) (Sd.DS ln h.i hl (λe=>e.elim)) (Sd.TN (λ_ _ _ hm=>ajl hm) hl h.i.p h.x)
 ·exact⟨h.i,h.x,h.key,h.ke,rfl,rfl⟩
end
def ft (u:World) (a:Option Addr):Sd.Byt:=λj=>match a with
 |some x=>(match u.cell? (x.add j)with|some (.int _ v)=>if 0<=v/\v<=255 then v else 0|_=>0)
 |none=>0
theorem afc {u:World} {a:Option Addr} {n c:Nat} {f:Nat->Int} (h:gF u a n c f) (hb:∀j,j<n->0<=f j/\f j<=255):gF u a n c (ft u a):=by
 refine⟨h.1,h.2.1,λx e j hj=>?_⟩;have hc:=h.2.2 x e j hj;have:ft u a j=f j:=by
  unfold ft;rw[e];simp only[hc];rw[if_pos (hb j hj)]
 rw[this];exact hc
def iY:Sd.Byt:=λ_=>0
def dF (n d:Nat) (f:Sd.Byt):VB:=⟨true,⟨5,(0,0)⟩,[.dC .u8 n f,.dC .u8 d iY]⟩
theorem jC (ids:List Nat) (n d:Nat) (f:Sd.Byt):(ab ids (dF n d f).c).toArray=dc n f (n+d):=by
 have e:(List.range d).map (λj=>Value.int .u8 (iY j))=List.replicate d (.int .u8 0):=by
  show(List.range d).map (λ_=>Value.int .u8 0)=_;rw[List.map_const'];simp
 simp only[dF,ab,cl,dc,eE,List.append_nil,e];rw[show n+d-n=d by omega]
theorem TV {u w:World} {B:List av} {ms:List Nat} {w0:World} (S:St ms w0 B w) (h:∀y∈du u,y∈B) {x:Addr} {v:Value} (hc:u.cell? x=some v):w.cell? x=some v:=by
 unfold World.cell? at hc⊢;split at hc
 ·rename_i cs ty fr' hb;have:=S.at' (h _ (qO hb));simp only at this;rw[this];exact hc
 ·cases hc
theorem TW {u w:World} {B:List av} {ms:List Nat} {w0:World} (S:St ms w0 B w) (h:∀y∈du u,y∈B) {a:Option Addr} {n c:Nat} {f:Nat->Int} (hk:gF u a n c f):gF w a n c f:=
 ⟨hk.1,hk.2.1,λx e j hj=>TV S h (hk.2.2 x e j hj)⟩
theorem xU {w:World} {m:Nat} {g:Nat->Int} {x:Option Addr} {t tx ty:TypeId} {xv:Value} (hs:Src prog 1 tx xv m (eE m g) w) (ht:prog.underlying t=some (.slice 5)) (hm:0<m) (hb:m<=140737488355328) (x:Addr):
 ∃c' w',(Builtin.append_ #[t,tx] ty #[.slice (some x) 0 0,xv]).run prog w=.ok (.slice (some ⟨w.heap.size,0,none⟩) m c') w'/\Ch [] w w'/\m<=c'/\w'.heap[w.heap.size]?=some (.cells (dc m g c') 5 (0,0)):=by
 have hi:(prog.info? 5).map (λi=>(i.zero.map (·.cells),i.size,i.bytes))=some (some #[.int .u8 0],1,1):=by kernel_rfl
 obtain⟨i,aF,hi⟩:=Option.map_eq_some_iff.1 hi;simp only[Prod.mk.injEq]at hi;obtain⟨hz,iM,sP⟩:=hi;obtain⟨z0,Cv,FI⟩:=Option.map_eq_some_iff.1 hz;have uZ:Src prog i.size tx xv m (eE m g) w:=by rw[iM];exact hs
 have hold:(Builtin.firstCells i.size 0 (.slice (some x) 0 0)).run prog w.drew=.ok (([]:List Value).toArray) w.drew:=
  run_firstCells_some (P:=prog) w.drew i.size 0 x 0 0 [] (by rw[Nat.zero_mul];rfl) (λj v hj=>nomatch hj)
 have aY:=run_append_grow_src (P:=prog) w t tx ty 5 i z0 ht aF Cv (some x) 0 0 [] hold xv m (eE m g) uZ (by omega) (by omega) (by rw[sP];exact growslice_fits (by omega) (by omega));have jI:=grownCap_ge w (0+m) 0 5;rw[Nat.zero_add]at aY jI;refine⟨_,_,aY,((Ch.refl [] w).drew).trans (Ch.alloc [] w.drew _) (λx hx=>.inl hx),jI,?_⟩;have:=heap_alloc_new w.drew (.cells (([]++eE m g).toArray++Builtin.zeroCells z0.cells (grownCap w m 0 5-m)) 5);refine Eq.trans this ?_;congr 2;apply Array.ext';rw[FI,Array.toList_append,lH];rfl
theorem NU {w:World} {g:Nat->Int} {t tx ty:TypeId} {xv:Value} (hs:Src prog 1 tx xv 0 (eE 0 g) w) (ht:prog.underlying t=some (.slice 5)) (x:Addr):
 (Builtin.append_ #[t,tx] ty #[.slice (some x) 0 0,xv]).run prog w=.ok (.slice (some x) 0 0) w:=by
 have hi:(prog.info? 5).map (λi=>(i.zero.map (·.cells),i.size,i.bytes))=some (some #[.int .u8 0],1,1):=by kernel_rfl
 obtain⟨i,aF,hi⟩:=Option.map_eq_some_iff.1 hi;simp only[Prod.mk.injEq]at hi;obtain⟨hz,iM,sP⟩:=hi;exact run_append_nothing (P:=prog) w t tx ty 5 i ht aF (some x) 0 0 (Nat.le_refl _) xv (by rw[iM];exact hs)
end Go.Proofs.YtggfpcggakghnaaGreatDoor
