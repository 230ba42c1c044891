/- Part 22 of the proof. -/
import Derived.Test.YtlkpikfddnjilaaGreatDoorQ21
set_option linter.all false
set_option maxRecDepth 100000
set_option maxHeartbeats 4000000
open Go.Proofs.Tryz
namespace Sd
variable{C:Crypt} {s:Scene}
def Bd (n:Int):Prop:=-9223372036854775808<=n/\n<=9223372036854775807
def TD (t:Timer):Prop:=Bd t.n/\Bd t.most
structure rp (t:Tab):Prop where
 hi:∀j,(t.az (j+3)).on=false
 st:TD t.aA.2
 ss:∀j,TD (t.az j).aN
structure gG (t:Tok):Prop where
 oa:TD t.oa
 la:TD t.la
def Eo (x:X4):Prop:=Bd x.a/\Bd x.b/\Bd x.c/\Bd x.d
structure PtX (p:Point):Prop where
 bZ:Eo p.bZ
 now:Eo p.now
structure Ext (c:Core):Prop where
 tab:rp c.tab
 t:gG c.t
 pt:PtX c.pt
 d:∀i,(c.doors i).many<=4294967295
 be:Bd c.beyond
theorem TE:Bd 0:=⟨by decide,by decide⟩
theorem ME:TD Timer.zero:=⟨TE,TE⟩
theorem x40:Eo X4.zero:=⟨TE,TE,TE,TE⟩
theorem Rh {n m:Int} (h:Bd n) (k:Bd m):Bd (sat n m):=by
 unfold Bd sat at*;split<;>omega
theorem yz {n a b:Int} (h:a<=n/\n<=b) (ha:-9223372036854775808<=a) (hb:b<=9223372036854775807):Bd n:=⟨by omega,by omega⟩
theorem mY {m:Int} (h:Bd m):TD (Timer.start m):=⟨TE,by unfold Timer.start Bd at*;dsimp only;omega⟩
theorem rq {t:Timer} (h:TD t):TD t.step:=⟨Rh h.1 h.2,h.2⟩
theorem Ext.eq {c c':Core} (h:Ext c) (h1:c'.tab=c.tab) (h2:c'.t=c.t) (h3:c'.pt=c.pt) (h4:c'.doors=c.doors) (h5:c'.beyond=c.beyond):Ext c':=
 ⟨h1▸h.tab,h2▸h.t,h3▸h.pt,h4▸h.d,h5▸h.be⟩
theorem Ext.new {p:Pol}:Ext (Core.new p):=⟨⟨λ_=>rfl,ME,λ_=>ME⟩,⟨ME,ME⟩,⟨x40,x40⟩,λ_=>show(0:Int)<=4294967295 by decide,TE⟩
theorem uw {t:Tok} {a b:Int}:gG (t.pass a b):=⟨ME,ME⟩
theorem mZ {t:Tok} (h:gG t) {a:Int}:gG (t.bA a).1:=by
 unfold Tok.bA;split
 ·exact h
 split
 ·exact h
 split
 ·exact h
 exact uw
theorem Ri {t:Tok} (h:gG t):gG t.bG:=⟨ME,h.la⟩
theorem Xh {p:Pol} (hp:cJ p) {t:Tok} (h:gG t) {a b:Int} {th:Bool}:gG (t.make p a b th).1:=by
 unfold Tok.make;split
 ·exact h
 split
 ·exact h
 split
 ·exact h
 split
 ·exact h
 split
 ·exact h
 exact⟨mY (yz hp.offer (by decide) (by decide)),h.la⟩
theorem LF {t:Tok} (h:gG t) {a b:Int}:gG (t.accept a b).1:=by
 unfold Tok.accept;split
 ·exact h
 split
 ·exact h
 exact mZ h
theorem Xi {t:Tok} (h:gG t) {a:Int}:gG (t.fb a).1:=by
 unfold Tok.fb;split
 ·exact h
 exact Ri h
theorem IS {t:Tok} (h:gG t) {a:Int}:gG (t.drop a).1:=by
 unfold Tok.drop;split
 ·exact h
 exact Ri h
theorem IT {t:Tok} (h:gG t):gG t.tick.1:=by
 unfold Tok.tick;split
 ·exact h
 split
 ·exact⟨ME,h.la⟩
 exact⟨rq h.oa,h.la⟩
theorem Rj {p:Pol} {t:Tok} {m:Int} {q:List Ask} {f:Int} {now:Bool} (h:gG t):gG (cC p t m q f now).1:=by
 unfold cC;split
 ·exact h
 split
 ·exact h
 split
 ·exact h
 split
 ·split
  ·exact h
  ·exact mZ h
 split
 ·exact h
 exact h
theorem DD {t:Tok} (h:gG t) {q:List Ask}:gG (a9 t q).1:=by
 unfold a9;split
 ·exact h
 split
 ·exact h
 exact mZ h
theorem wI {t:Tok} (h:gG t) {q:List Ask} {f:Int}:gG (an t q f).1:=by
 unfold an;split
 ·exact h
 split
 ·exact h
 exact DD h
theorem A0 {p:Pol} (hp:cJ p) {t:Tok} (h:gG t) {q:List Ask} {th:Bool}:gG (bK p t q th).1:=by
 unfold bK;split
 ·exact⟨h.oa,ME⟩
 have MU:TD (if t.la.most=0 then Timer.start p.cM else t.la).step:=by
  split
  ·exact rq (mY (yz hp.cM (by decide) (by decide)))
  ·exact rq h.la
 dsimp only;generalize (if t.la.most=0 then Timer.start p.cM else t.la).step=la at*;have h1:gG {t with la:=la}:=⟨h.oa,MU⟩;split
 ·exact h1
 split
 ·exact uw
 split
 ·exact mZ h1
 exact DD h1
theorem Ext.record {k a n e w:Int} (h:Ext s.c):Ext (s.record C k a n e w).c:=⟨h.tab,h.t,h.pt,h.d,h.be⟩
theorem Ext.hear {l:Int} {r:Reply} (h:Ext s.c):Ext (s.hear l r).c:=by rw[Scene.hear_c];exact h
theorem Ext.gone {l w e:Int} (h:Ext s.c):Ext (s.gone l w e).c:=h.hear
theorem Ext.tell {l:Int} {r:Reply} (h:Ext s.c):Ext (s.tell l r).c:=h
theorem Ext.done {l n:Int} (h:Ext s.c):Ext (s.done l n).c:=h
theorem Ext.refuse {l n e:Int} (h:Ext s.c):Ext (s.refuse C l n e).c:=Ext.record (s:=s.tell l _) h
theorem Ext.cW {l e:Int} (h:Ext s.c):Ext (s.cW C l e).c:=h.record
theorem Ext.goes {t:Tok} {how n:Int} (h:Ext s.c) (ht:gG t):Ext (s.goes C t how n).c:=by
 obtain⟨x,e⟩:=Scene.z7 C s t how n;rw[e];exact⟨h.tab,ht,h.pt,h.d,h.be⟩
theorem Ext.leave {x:Int} (h:Ext s.c):Ext (s.leave C x).c:=by
 obtain⟨hd,e⟩:=Ab C s x;rw[e];exact⟨h.tab,IS h.t,h.pt,h.d,h.be⟩
theorem Ext.aZ {t:Tok} (h:Ext s.c) (ht:gG t):Ext (s.aZ t).c:=⟨h.tab,ht,h.pt,h.d,h.be⟩
theorem Ext.DE {q:List Ask} (h:Ext s.c):Ext ({s with c:={s.c with q:=q}}:Scene).c:=⟨h.tab,h.t,h.pt,h.d,h.be⟩
theorem Ext.dt {m:Int} {y:Label} (h:Ext s.c):Ext (s.dt m y).c:=⟨h.tab,h.t,⟨x40,h.pt.now⟩,h.d,h.be⟩
theorem A1 {t:Tab} (h:rp t) {i:Nat} (hi:i<3) {x:br} (hx:TD x.aN):rp (t.eU i x) where
 hi:=by
  intro j;unfold Tab.eU;dsimp only;rw[if_neg (by omega)];exact h.hi j
 st:=h.st
 ss:=by
  intro j;unfold Tab.eU;dsimp only;split
  ·exact hx
  ·exact h.ss j
theorem Xj {t:Tab} (h:rp t) {l:Int} (hl:1<=l/\l<=3):rp (t.end_ l):=by
 unfold Tab.end_;split
 ·exact A1 h (by omega) ME
 ·exact h
theorem LJ {p:Pol} (hp:cJ p) {t:Tab} (h:rp t) {l r:Int} {key:Byt}:rp (Tab.bu p t l r key).1:=by
 unfold Tab.bu;split
 ·exact h
 split
 ·exact h
 exact A1 h (by omega) (mY (yz hp.bR (by decide) (by decide)))
theorem Rk {p:Pol} (hp:cJ p) {t:Tab} (h:rp t) {l:Int} (hl:1<=l/\l<=3) {n:Nat} {f:Byt}:rp (Tab.take C p t l n f).1:=by
 unfold Tab.take;split
 ·exact h
 split
 ·exact h
 split
 ·exact h
 split
 ·exact h
 split
 ·exact h
 exact A1 h (by omega) (mY (yz hp.bR (by decide) (by decide)))
theorem GF {p:Pol} (hp:cJ p) {t:Tab} (h:rp t):rp (t.cV p):=⟨h.hi,mY (yz hp.bR (by decide) (by decide)),h.ss⟩
theorem Rl {t:Tab} (h:rp t):rp t.tick where
 hi:=by
  intro j;simp only[Tab.tick,h.hi j];simp[h.hi j]
 st:=by
  unfold Tab.tick;dsimp only;split
  ·split
   ·exact ME
   ·exact rq h.st
  ·exact h.st
 ss:=by
  intro j;unfold Tab.tick;dsimp only;split
  ·split
   ·exact ME
   ·exact rq (h.ss j)
  ·exact h.ss j
theorem ru {n a b:Int} (ha:Bd a) (hb:Bd b) (h:Bd n):Bd (og n a b):=by
 unfold og;split
 ·exact ha
 split
 ·exact hb
 exact h
theorem Rn {p:Pol} (hp:cJ p) {pt:Point} (h:PtX pt) {c:Int} {x:X4} (hx:Eo x) {y:Label}:PtX (pt.set p c x y) where
 bZ:=by
  unfold Point.set;dsimp only;split
  ·exact x40
  ·have hm:=hp.most c.toNat (by omega);have h1:Bd (-(p.most c.toNat)):=⟨by omega,by omega⟩;have h2:Bd (p.most c.toNat):=⟨by omega,by omega⟩;exact⟨ru h1 h2 hx.1,ru h1 h2 hx.2.1,ru h1 h2 hx.2.2.1,ru h1 h2 hx.2.2.2⟩
 now:=h.now
theorem nJ {a b r:Int} (ha:Bd a) (hb:Bd b):Bd (iF a b r):=by
 unfold iF Bd at*;split
 ·exact ha
 split
 ·split<;>omega
 ·split<;>omega
theorem Xk {p:Pol} {pt:Point} (h:PtX pt):PtX (pt.step p) where
 bZ:=h.bZ
 now:=⟨nJ h.now.1 h.bZ.1,nJ h.now.2.1 h.bZ.2.1,nJ h.now.2.2.1 h.bZ.2.2.1,nJ h.now.2.2.2 h.bZ.2.2.2⟩
theorem Xl {m:db} {l:Int} (hl:1<=l/\l<=3) (hp:cJ s.c.p) (hx:Eo m.x) (h:Ext s.c):Ext (s.uO C l m).c:=by
 unfold Scene.uO;split
 ·exact h.done
 split
 ·unfold Scene.Yz;refine Ext.done (Ext.record (Ext.leave ?_));exact⟨Xj h.tab hl,h.t,h.pt,h.d,h.be⟩
 split
 ·unfold Scene.ask;dsimp only;split
  ·exact h.refuse
  refine Ext.done ?_;split
  ·exact Ext.goes (h.DE) (Rj h.t)
  ·exact Ext.record (Ext.aZ h.DE (Rj h.t))
 split
 ·unfold Scene.offer;dsimp only;split
  ·exact h.refuse
  exact Ext.done (Ext.record (Ext.hear (Ext.aZ h (Xh hp h.t))))
 split
 ·unfold Scene.accept;dsimp only;split
  ·exact h.refuse
  exact Ext.done (Ext.goes h (LF h.t))
 split
 ·unfold Scene.fb;dsimp only;split
  ·exact h.refuse
  exact Ext.done (Ext.record (Ext.gone (Ext.aZ h (Xi h.t))))
 split
 ·unfold Scene.release;dsimp only;split
  ·exact h.refuse
  exact Ext.done (Ext.goes h.DE (wI h.t))
 split
 ·unfold Scene.command;dsimp only;split
  ·exact h.refuse
  refine Ext.done (Ext.record ?_);split
  ·exact⟨h.tab,h.t,h.pt,h.d,h.be⟩
  ·exact⟨h.tab,h.t,Rn hp h.pt hx,h.d,h.be⟩
 ·exact h
theorem Ro {l code:Int} {n:Nat} {f:Byt} (hx:∀n f m,C.take n f=some m->Eo m.x) (hl:1<=l/\l<=3) (hp:cJ s.c.p) (h:Ext s.c):Ext (s.item C l code n f).c:=by
 unfold Scene.item;split
 ·exact h.cW
 split
 ·unfold Scene.jt;split
  ·exact h.cW
  split
  ·exact h.refuse
  dsimp only;split
  ·exact h.refuse
  refine Ext.record (Ext.tell ?_);refine⟨h.tab,h.t,h.pt,?_,h.be⟩;intro i;dsimp only;split
  ·dsimp only;omega
  ·exact h.d i
 split
 ·unfold Scene.prove;split
  ·exact h.cW
  split
  ·exact h.cW
  dsimp only;split
  ·exact h.refuse
  have h1:∀{b:Bool} {x:Byt},Ext ({s.c with doors:=λj=>if j=l.toNat-1 then⟨(s.c.doors (l.toNat-1)).many,b,x⟩else s.c.doors j}:Core):=by
   intro b x;refine⟨h.tab,h.t,h.pt,?_,h.be⟩;intro i;dsimp only;split
   ·exact h.d _
   ·exact h.d i
  split
  ·exact Ext.cW (s:=({s with c:=_}:Scene)) h1
  split
  ·exact Ext.refuse (s:=({s with c:=_}:Scene)) h1
  split
  ·exact Ext.refuse (s:=({s with c:=_}:Scene)) h1
  refine Ext.record (Ext.tell ?_);exact⟨LJ hp h.tab,h.t,h.pt,(@h1 false λ_=>0).d,h.be⟩
 split
 ·exact h.cW
 ·rename_i tab m heq;have h1:rp tab:=by have:=Rk (C:=C) hp h.tab hl (n:=n) (f:=f);rw[heq]at this;exact this
  have hm:Eo m.x:=by
   unfold Tab.take at heq;split at heq
   ·cases heq
   split at heq
   ·cases heq
   split at heq
   ·cases heq
   ·rename_i m' Ni;split at heq
    ·cases heq
    split at heq
    ·cases heq
    cases heq;exact hx _ _ _ Ni
  exact Xl hl hp hm ⟨h1,h.t,h.pt,h.d,h.be⟩
theorem GG {x:dq} (hx:Eo x.x) (hp:cJ s.c.p) (h:Ext s.c):Ext (s.cV C x).c:=by
 have hs:Bd (oh s.c.p s.c.beyond x).1:=by
  unfold oh;split
  ·exact TE
  ·exact Rh (by have:=h.be;unfold Bd at*;omega) (yz hp.oe (by decide) (by decide))
 unfold Scene.cV;split
 ·exact⟨h.tab,h.t,h.pt,h.d,TE⟩
 dsimp only;have h1:Ext ({s.c with samples:=sat s.c.samples 4294967295,tab:=s.c.tab.cV s.c.p,beyond:=(oh s.c.p s.c.beyond x).1}:Core):=⟨GF hp h.tab,h.t,h.pt,h.d,hs⟩;split
 ·split
  ·exact Ext.record (s:=({s with c:=_}:Scene)) h1
  ·exact Ext.goes ⟨h1.tab,h1.t,h1.pt,h1.d,h1.be⟩ (wI h.t)
 split
 ·split
  ·exact Ext.record (s:=({s with c:=_}:Scene)) h1
  ·exact Ext.record (s:=({s with c:=_}:Scene)) ⟨h1.tab,h1.t,Rn hp h.pt hx,h1.d,h1.be⟩
 split
 ·split
  ·exact Ext.record (s:=({s with c:=_}:Scene)) h1
  ·exact Ext.goes (s:=({s with c:=_}:Scene)) h1 (mZ h.t)
 ·exact h1
theorem A2 (q:List Ask):∀s:Scene,Ext s.c->Ext (q.foldl cY s).c:=by
 induction q with
 |nil=>intro s h;exact h
 |cons a q ih=>intro s h;exact ih _ (by rw[lM];exact⟨h.tab,h.t,h.pt,h.d,h.be⟩)
theorem GH {bad:Bool} (h:Ext s.c):Ext (s.fM C bad).c:=by
 cases bad with
 |false=>exact⟨h.tab,⟨h.t.oa,h.t.la⟩,h.pt,h.d,h.be⟩
 |true=>
  rw[sT true rfl];refine Ext.dt (A2 _ _ ?_);have h0:Ext (s.aZ {s.c.t with bad:=true}).c:=Ext.aZ h ⟨h.t.oa,h.t.la⟩;split
  ·exact Ext.goes h0 uw
  ·exact Ext.aZ h0 uw
theorem ac6 (xs:List Int):∀t:Tok,gG t->gG (kV t xs):=by
 induction xs with
 |nil=>intro t h;exact h
 |cons x xs ih=>
  intro t h;unfold kV at*;rw[List.foldl_cons];refine ih _ ?_;split
  ·exact IS h
  ·exact h
theorem Xm (xs:List Int):∀s:Scene,Ext s.c->Ext (xs.foldl (fO C) s).c:=by
 induction xs with
 |nil=>intro s h;exact h
 |cons x xs ih=>
  intro s h;refine ih _ ?_;obtain⟨hd,e⟩:=Dy C s x;rw[e];exact⟨h.tab,ac6 _ _ h.t,h.pt,h.d,h.be⟩
theorem LN (q:List Ask):∀s:Scene,Ext s.c->Ext (q.foldl (hU C) s).c:=by
 induction q with
 |nil=>intro s h;exact h
 |cons a q ih=>intro s h;exact ih _ (Ext.record (Ext.gone h))
theorem Rp (hp:cJ s.c.p) (h:Ext s.c):Ext (s.cM C).c:=by
 unfold Scene.cM;dsimp only;split
 ·exact Ext.aZ h (A0 hp h.t)
 split
 ·exact Ext.dt (Ext.goes h.DE (A0 hp h.t))
 ·exact Ext.dt (Ext.goes h.DE (A0 hp h.t))
theorem Rq (hi:Inv s.c) (h:Ext s.c):Ext (s.tick C).c:=by
 rw[rn];have h1:Ext (iU C s).c:=Xm _ _ ⟨Rl h.tab,h.t,h.pt,h.d,h.be⟩;have h2:Ext (iV C (iU C s)).c:=by
  unfold iV;dsimp only;split
  ·exact Ext.record (Ext.gone (Ext.aZ h1 (IT h1.t)))
  ·exact Ext.aZ h1 (IT h1.t)
 have h3:Ext (lZ C (iV C (iU C s))).c:=LN _ _ ⟨h2.tab,h2.t,h2.pt,h2.d,h2.be⟩;have hp:cJ (lZ C (iV C (iU C s))).c.p:=by rw[(Rf (b:=True) hi).2.p];exact hi.p
 have h4:=Rp (C:=C) hp h3;exact⟨h4.tab,h4.t,Xk h4.pt,h4.d,h4.be⟩
end Sd
namespace Sx
open Go Go.RowKit Go.BigFrame
theorem St.dup {ms:List Nat} {w0 w:World} {bs:List ax} {b:ax} (S:St ms w0 bs w) (hb:b∈bs) (hw:b.wr=false):St ms w0 (b::bs) w:=by
 refine St.mk' S.ch ?_ ?_ ?_
 ·intro x hx;rcases List.mem_cons.1 hx with rfl|hx
  ·exact S.at' hb
  ·exact S.at' hx
 ·intro x hx h;rcases List.mem_cons.1 hx with rfl|hx
  ·rw[hw]at h;cases h
  ·exact S.pP hx h
 ·refine List.pairwise_cons.2 ⟨?_,S.pw⟩;intro y hy;obtain⟨i,hi⟩:=List.getElem?_of_mem hb;obtain⟨j,hj⟩:=List.getElem?_of_mem hy;intro h;have hyw:y.wr=true:=by
   rcases h with h|h
   ·rw[hw]at h;cases h
   ·exact h
  have eS:j≠i:=λe=>by
   rw[e,hi]at hj;have:=Option.some.inj hj;rw[this]at hw;rw[hw]at hyw;cases hyw
  exact(S.apart j i y b hj hi eS hyw).symm
end Sx
namespace Go.Proofs.YtlkpikfddnjilaaGreatDoor
open Go Go.RowKit Go.BigFrame Sx Vx
variable{fr:Sd.Reply->Nat×Sd.Byt}
inductive LG (fr:Sd.Reply->Nat×Sd.Byt) where
 |dC (u:World)
 |core (g:Gh fr) (fB:List ax)
 |row (r:aE)
instance:Bl (LG fr):=⟨λg=>match g with|.dC u=>dV u|.core g fB=>g.F.B++fB|.row r=>r.bl⟩
mutual
def rv (n:Nat):V->V
 |.ptr i o=>.ptr (i+n) o
 |.sl i o m c=>.sl (i+n) o m c
 |.ij i o m c x=>.ij (i+n) o m c x
 |.pe i o j z k=>.pe (i+n) o j z k
 |.fn f a b=>.fn f (IU n a) (IU n b)
 |.BF t v=>.BF t (rv n v)
 |.agg l=>.agg (IU n l)
 |.aC l=>.aC (IU n l)
 |v=>v
def IU (n:Nat):List V->List V
 |[]=>[]
 |v::l=>rv n v::IU n l
end
theorem ux {ids xs:List Nat} (i:Nat):(ids++xs).getD (i+ids.length) 0=xs.getD i 0:=by
 simp[List.getD,List.getElem?_append_right (show ids.length<=i+ids.length by omega)]
mutual
theorem sU {ids xs:List Nat}:∀v:V,den (ids++xs) (rv ids.length v)=den xs v
 |.ptr i _=>by simp only[rv,den,ux]
 |.sl i _ _ _=>by simp only[rv,den,ux]
 |.ij i _ _ _ _=>by simp only[rv,den,ux]
 |.pe i _ _ _ _=>by simp only[rv,den,ux]
 |.fn _ a b=>by simp only[rv,den,uy a,uy b]
 |.BF _ v=>by simp only[rv,den,sU v]
 |.agg l=>by simp only[rv,den,A3 l]
 |.aC l=>by simp only[rv,den,uy l]
 |.int _ _=>by simp[rv,den]
 |.bool _=>by simp[rv,den]
 |.dS _ _ _=>by simp[rv,den]
 |.arr _ _ _=>by simp[rv,den]
 |.jN _ _ _ _=>by simp[rv,den]
 |.rest _=>by simp[rv,den]
 |.fN _ _ _=>by simp[rv,den]
 |.raw _=>by simp[rv,den]
theorem uy {ids xs:List Nat}:∀l:List V,aq (ids++xs) (IU ids.length l)=aq xs l
 |[]=>by simp[IU,aq]
 |v::l=>by simp only[IU,aq,sU v,uy l]
theorem A3 {ids xs:List Nat}:∀l:List V,af (ids++xs) (IU ids.length l)=af xs l
 |[]=>by simp[IU,af]
 |v::l=>by
  simp only[IU,af,A3 l];congr 1;have h:=sU (ids:=ids) (xs:=xs) v;cases v<;>simp only[rv,cl]at h⊢<;>first|rfl|rw[h]
end
def Zs (n:Nat):List VB->List VB
 |[]=>[]
 |b::l=>⟨b.wr,b.ty,IU n b.c⟩::Zs n l
theorem IV (n:Nat):∀l:List VB,(Zs n l).length=l.length
 |[]=>rfl
 |_::l=>by simp[Zs,IV n l]
theorem IW {ids xs:List Nat}:∀(is:List Nat) (bl:List VB),lits (ids++xs) is (Zs ids.length bl)=lits xs is bl
 |[],_=>by simp[lits]
 |_::_,[]=>by simp[lits,Zs]
 |i::is,b::bl=>by
  simp only[Zs,lits,IW is bl];unfold aL;simp only[A3]
abbrev LKb (fr:Sd.Reply->Nat×Sd.Byt) (k:LK):=V->(s':Sd.Scene)->cw fr (bV k s')->List ax->List VB->Prop
abbrev LM (fr:Sd.Reply->Nat×Sd.Byt):=List V->(k:LK)->(s:Sd.Scene)->cw fr (bV k s)->LKb fr k->Prop
def fS (bl:List VB) (ic it:Nat) (k:LK) (s:Sd.Scene):List VB:=(bl.set ic (ee k it s)).set it (gp s)
def MF (M:World->LM fr):gZ (LG fr):=λargs bl ch K=>match args,ch with
 |.ptr ic 0::ar,.dC u::.core g fB::rest=>(match bl[ic]?with
  |some ⟨true,⟨97,(0,0)⟩,cc⟩=>(match yl cc with
   |some x=>(match bl[x.it]?with
    |some ⟨true,⟨143,(0,0)⟩,tc⟩=>(match vP tc with
     |some y=>cond (cG 0 ar&&(dE bl.length bl&&(Nat.blt 1 ic&&(Nat.blt 1 x.it&&!(Nat.beq ic x.it)))))
      ((bl[0]?=some (aF g.d.k)/\bl[1]?=some (iq g.d.k)/\x=CX g.d.k x.it (ot x y g.d g.dx g.sx)/\y.b=x.p.bR/\y.m=x.p.bz/\x.p.queue=g.d.k.most)/\
        M u ar g.d.k (ot x y g.d g.dx g.sx) g.F λvv s' F' fn ex=>K (rv bl.length vv) (fS bl ic x.it g.d.k s'++ex) (.dC u::.core (cx g.d.k s' F') (fn++fB)::rest)) False
     |none=>False)
    |_=>False)
   |none=>False)
  |_=>False)
 |_,_=>False
abbrev ca (a b:Nat):List Nat:=[0,2,a,b]
def oB (f:FuncId) (M:World->LM fr):Prop:=∀(u:World) (ar:List V) (k:LK) (s:Sd.Scene) (F:cw fr (bV k s)) (Kb:LKb fr k) (a b:Nat) (R:List ax) (ms:List Nat) (w0 w:World),cG 0 ar=true->s.c.p.queue=k.most->M u ar k s F Kb->
 St ms w0 (lits (ca a b) (ca a b) (gi k s)++(F.B++(dV u++R))) w->
 ak prog f (aq (ca a b) (.ptr 2 0::ar)).toArray w λv w'=>∃(vv:V) (s':Sd.Scene) (F':cw fr (bV k s')) (fn:List ax) (ex:List VB) (xs:List Nat),xs.length=ex.length/\den xs vv=v/\dE 0 ex=true/\Kb vv s' F' fn ex/\
  St ms w0 (lits (ca a b) (ca a b) (gi k s')++(lits xs xs ex++(F'.B++(fn++(dV u++R))))) w'
theorem yA {ids:List Nat} {it a b:Nat} (n:Nat) {k:LK} {s:Sd.Scene} (h:ids.getD it 0=b):aL ids n (ee k it s)=aL (ca a b) n (ee k 3 s):=by
 have e:(ca a b).getD 3 0=b:=rfl;simp only[aL,ee,yk,CX,af,cl,den,h,e]
structure Rr (bl:List VB) (ic it:Nat) (k:LK) (s:Sd.Scene):Prop where
 h0:bl[0]?=some (aF k)
 h1:bl[1]?=some (iq k)
 hc:bl[ic]?=some (ee k it s)
 ht:bl[it]?=some (gp s)
theorem ry {ids:List Nat} {bl:List VB} {ic it:Nat} {k:LK} {s:Sd.Scene} (H:Rr bl ic it k s) (hg:Gl gS ids):
 ([0,1,ic,it].map λj=>aL ids (ids.getD j 0) (bl.getD j g_))=lits (ca (ids.getD ic 0) (ids.getD it 0)) (ca (ids.getD ic 0) (ids.getD it 0)) (gi k s):=by
 have g0:=(hg 0 0 rfl).2;have g1:=(hg 2 1 rfl).2;simp only[List.map_cons,List.map_nil,cL H.h0,cL H.h1,cL H.hc,cL H.ht,g0,g1,gi,lits];rw[cj (ids':=ca (ids.getD ic 0) (ids.getD it 0)) (gC k),cj (ids':=ca (ids.getD ic 0) (ids.getD it 0)) (tu k),cj (ids':=ca (ids.getD ic 0) (ids.getD it 0)) (ir s),
  yA (a:=ids.getD ic 0) _ rfl]
theorem DF {bl:List VB} {ic it:Nat} {k:LK} {s:Sd.Scene} (H:Rr bl ic it k s) (h2:1<ic) (h3:1<it) (n3:ic≠it) (s':Sd.Scene):Rr (fS bl ic it k s') ic it k s':=by
 have l2:=ck H.hc;have l3:=ck H.ht;unfold fS;refine⟨?_,?_,?_,?_⟩
 ·rw[eN (by omega),eN (by omega)];exact H.h0
 ·rw[eN (by omega),eN (by omega)];exact H.h1
 ·rw[eN (by omega),mR l2]
 ·rw[mR (by simpa using l3)]
theorem wJ {bl:List VB} {ids r:List Nat} {a b:Nat} {x y:VB} (hr:∀j∈r,j≠a/\j≠b):
 (r.map λj=>aL ids (ids.getD j 0) (((bl.set a x).set b y).getD j g_))=r.map λj=>aL ids (ids.getD j 0) (bl.getD j g_):=by
 apply List.map_congr_left;intro j hj;obtain⟨h1,h2⟩:=hr j hj;simp only[List.getD,List.getElem?_set];rw[if_neg (Ne.symm h2),if_neg (Ne.symm h1)]
theorem rz {n:Nat} {b:VB} (hb:cG n b.c=true):∀(bl:List VB) (i:Nat),dE n bl=true->dE n (bl.set i b)=true
 |[],_,_=>by simp[dE]
 |c::l,0,h=>by simp only[dE,Bool.and_eq_true,List.set_cons_zero]at h⊢;exact⟨hb,h.2⟩
 |c::l,i+1,h=>by simp only[dE,Bool.and_eq_true,List.set_cons_succ]at h⊢;exact⟨h.1,rz hb l i h.2⟩
theorem fE {ids ids':List Nat}:∀(xs:List Nat) (ex:List VB),dE 0 ex=true->lits ids xs ex=lits ids' xs ex
 |[],_,_=>by simp[lits]
 |_::_,[],_=>by simp[lits]
 |i::is,b::bl,h=>by
  simp only[dE,Bool.and_eq_true]at h;simp only[lits];rw[cj (ids':=ids') h.1,fE is bl h.2]
theorem DG {f:Nat} {M:World->LM fr} (h:oB f M):Sound prog gS f (MF M):=by
 intro args ids bl ch R ms w0 w K hg hl S hc;unfold MF at hc;split at hc
 ·rename_i ic ar u g fB rest;split at hc
  ·rename_i cc Th;split at hc
   ·rename_i x hx;split at hc
    ·rename_i tc Y8;split at hc
     ·rename_i y hy;cases hq:cG 0 ar&&(dE bl.length bl&&(Nat.blt 1 ic&&(Nat.blt 1 x.it&&!(Nat.beq ic x.it))))with
      |false=>rw[hq]at hc;exact hc.elim
      |true=>
       rw[hq]at hc;simp only[Bool.and_eq_true,Bool.not_eq_true',Nat.blt_eq]at hq;obtain⟨q0,qw,q2,q3,q6⟩:=hq;have n3:ic≠x.it:=λe=>by rw[e,Nat.beq_refl]at q6;cases q6
       obtain⟨⟨e3,e4,e5,e6,e7,e8⟩,hM⟩:=hc;obtain rfl:=qN hx;obtain rfl:=j7 hy;have H:Rr bl ic x.it g.d.k (ot x y g.d g.dx g.sx):=by
        refine⟨e3,e4,?_,?_⟩
        ·rw[Th];congr 1;unfold ee;rw[<-e5]
        ·rw[Y8];congr 1;unfold gp;have:y=VP (ot x y g.d g.dx g.sx):=by
          obtain⟨y1,y2,y3,y4,y5,y6,y7,y8⟩:=y;simp only at e6 e7;subst e6 e7;rfl
         rw[<-this]
       have l2:=ck H.hc;have l3:=ck H.ht;obtain⟨r,hr,hp⟩:=vR (bl:=bl) (ids:=ids) hl (is:=[0,1,ic,x.it]) (by simp;omega) (by
        intro i hi;simp only[List.mem_cons,List.not_mem_nil,or_false]at hi;rcases hi with rfl|rfl|rfl|rfl<;>omega)
       have ef:=hp bl rfl;rw[ry H hg]at ef;have S1:=S.perm (bs':=lits (ca (ids.getD ic 0) (ids.getD x.it 0)) (ca (ids.getD ic 0) (ids.getD x.it 0)) (gi g.d.k (ot x y g.d g.dx g.sx))++(g.F.B++(dV u++((r.map λj=>aL ids (ids.getD j 0) (bl.getD j g_))++(fB++ag rest R))))) (by
        refine(ef.append_right _).trans ?_;rw[List.append_assoc];refine List.Perm.append_left _ ?_;show((r.map λj=>aL ids (ids.getD j 0) (bl.getD j g_))++(dV u++((g.F.B++fB)++ag rest R))).Perm _;exact cH λf=>by simp only[List.countP_append];omega)
       have vS:=h u ar g.d.k (ot x y g.d g.dx g.sx) g.F _ _ _ _ ms w0 w q0 e8 hM S1;have bd:aq ids (.ptr ic 0::ar)=aq (ca (ids.getD ic 0) (ids.getD x.it 0)) (.ptr 2 0::ar):=by
        have a1:aq ids ar=aq [] ar:=by have:=dI (ids:=[]) (more:=ids) ar q0;simpa using this
        have a2:aq (ca (ids.getD ic 0) (ids.getD x.it 0)) ar=aq [] ar:=by have:=dI (ids:=[]) (more:=ca (ids.getD ic 0) (ids.getD x.it 0)) ar q0;simpa using this
        simp only[aq,den,a1,a2];rfl
       rw[bd];refine vS.mono ?_;rintro v w' ⟨vv,s',F',fn,ex,xs,pI,hvv,WJ,hK,S2⟩;refine⟨rv bl.length vv,xs,fS bl ic x.it g.d.k s'++ex,.dC u::.core (cx g.d.k s' F') (fn++fB)::rest,?_,?_,?_,hK⟩
       ·rw[<-hl,sU];exact hvv.symm
       ·simp[fS,hl,pI]
       ·have H':=DF H q2 q3 n3 s';have jG:=hp (fS bl ic x.it g.d.k s') (by simp[fS]);rw[ry H' hg]at jG;have CZ:(r.map λj=>aL ids (ids.getD j 0) ((fS bl ic x.it g.d.k s').getD j g_))=r.map λj=>aL ids (ids.getD j 0) (bl.getD j g_):=by
         unfold fS;refine wJ ?_;intro j hj;have:=hr j hj;simp only[List.mem_cons,List.not_mem_nil,or_false,not_or]at this;omega
        rw[CZ]at jG;have gH:ids.length=(fS bl ic x.it g.d.k s').length:=by simp[fS,hl]
        have hw2:dE ids.length (fS bl ic x.it g.d.k s')=true:=by
         unfold fS;rw[<-hl]at qw l3;refine rz ?_ _ _ (rz ?_ _ _ qw)
         ·exact gx (Nat.zero_le _) _ (ir s')
         ·simp only[ee,yk,CX,cG,fu,Bool.and_eq_true,Nat.blt_eq,Bool.true_and,Bool.and_true];exact l3
        rw[aQ _ _ _ _ gH,aR _ _ hw2,fE (ids':=xs) xs ex WJ];refine S2.perm ?_;show List.Perm _ ((lits ids ids (fS bl ic x.it g.d.k s')++lits xs xs ex)++(dV u++((F'.B++(fn++fB))++ag rest R)));refine List.Perm.trans ?_ ((jG.symm.append_right _).append_right _);exact cH λf=>by simp only[List.countP_append];omega
     ·exact hc.elim
    ·exact hc.elim
   ·exact hc.elim
  ·exact hc.elim
 ·exact hc.elim
theorem pD {f:Nat} {M:World->LM fr} (h:oB f M):oq prog gS ⟨f,false,MF M⟩:=⟨DG h,λe=>by cases e⟩
end Go.Proofs.YtlkpikfddnjilaaGreatDoor
namespace Sx
open Go Go.RowKit Go.BigFrame
theorem St.CU {ms:List Nat} {w0 w:World} {b:ax} {bs:List ax} (S:St ms w0 (b::bs) w):St ms w0 (⟨b.id,false,b.obj⟩::bs) w:=by
 refine St.mk' S.ch ?_ ?_ ?_
 ·intro x hx;rcases List.mem_cons.1 hx with rfl|hx
  ·exact S.at' (x:=b) (List.mem_cons_self)
  ·exact S.at' (List.mem_cons_of_mem _ hx)
 ·intro x hx h;rcases List.mem_cons.1 hx with rfl|hx
  ·cases h
  ·exact S.pP (List.mem_cons_of_mem _ hx) h
 ·have:=List.pairwise_cons.1 S.pw;refine List.pairwise_cons.2 ⟨?_,this.2⟩;intro y hy h;refine this.1 y hy ?_;rcases h with h|h
  ·cases h
  ·exact .inr h
end Sx
namespace Go.Proofs.YtlkpikfddnjilaaGreatDoor
open Go Go.RowKit Go.BigFrame Sx Vx
variable{fr:Sd.Reply->Nat×Sd.Byt}
def ji (s:Sd.Scene):Sd.Scene:=⟨s.c,[],[]⟩
def DH (l:List Sd.Rec) (j:Nat):List Value:=[.int .i64 (l.getD j default).kind,.int .i64 (l.getD j default).source,.int .i64 (l.getD j default).seq,.int .i64 (l.getD j default).epoch,.int .i64 (l.getD j default).code,.int .i64 (l.getD j default).how]
theorem DJ:∀(l:List Sd.Rec),(List.range l.length).flatMap (DH l)=mP l
 |[]=>rfl
 |r::l=>by
  rw[List.length_cons,List.range_succ_eq_map,List.flatMap_cons,List.flatMap_map];have e:(λj=>DH (r::l) (Nat.succ j))=DH l:=by funext j;rfl
  rw[e,DJ l];rfl
def GI (ty:TypeId) (z n:Nat) (g:Nat->List Value) (us:List Value):VB:=⟨false,ty,[.fN z n g,.rest us]⟩
theorem IX (ids:List Nat) (ty z n:Nat) (g:Nat->List Value) (us:List Value):af ids (GI ty z n g us).c=(List.range n).flatMap g++us:=by
 simp only[GI,af,cl,List.append_nil]
structure SlV where
 x:Option Addr
 n:Nat
 c:Nat
def xF (l:List (Int×Sd.Reply)) (fv:Nat->SlV) (j:Nat):List Value:=[.int .i64 (l.getD j default).1,.slice (fv j).x (fv j).n (fv j).c]
def LR (fr:Sd.Reply->Nat×Sd.Byt) (l:List (Int×Sd.Reply)) (fv:Nat->SlV) (fn:List ax):Prop:=∀j,j<l.length->∃x c b,fv j=⟨x,(fr (l.getD j default).2).1,c⟩/\dG 5 (fr (l.getD j default).2).1 (fr (l.getD j default).2).2 x c b/\∀y∈b,y∈fn
theorem Xn {l:List (Int×Sd.Reply)} {so:List Value} {B:List ax} (h:vO fr l so B):∃fv,so=(List.range l.length).flatMap (xF l fv)/\LR fr l fv B:=by
 induction h with
 |nil=>exact⟨λ_=>⟨none,0,0⟩,rfl,λj hj=>absurd hj (by simp)⟩
 |@snoc l olds bl h k r x c b hb ih=>
  obtain⟨fv,e,hf⟩:=ih;refine⟨λj=>if j=l.length then⟨x,(fr r).1,c⟩else fv j,?_,?_⟩
  ·rw[List.length_append,List.length_singleton,List.range_succ,List.flatMap_append,e];congr 1
   ·simp only[List.flatMap_def];congr 1;apply List.map_congr_left;intro j hj;have hj:=List.mem_range.1 hj;unfold xF;dsimp only;rw[if_neg (show¬j=l.length by omega),List.getD_eq_getElem?_getD,List.getD_eq_getElem?_getD,List.getElem?_append_left hj]
   ·simp[xF,List.getD]
  ·intro j hj;by_cases h1:j=l.length
   ·subst h1;have e2:(l++[(k,r)]).getD l.length default=(k,r):=by simp[List.getD]
    rw[e2];exact⟨x,c,b,by simp,hb,λy hy=>by simp[hy]⟩
   ·have S_:j<l.length:=by simp at hj;omega
    obtain⟨x',c',b',h2,h3,h4⟩:=hf j S_;have e2:(l++[(k,r)]).getD j default=l.getD j default:=by rw[List.getD_eq_getElem?_getD,List.getD_eq_getElem?_getD,List.getElem?_append_left S_]
    rw[e2];exact⟨x',c',b',by simp only[if_neg h1];exact h2,h3,λy hy=>by simp[h4 y hy]⟩
def Rs (s:Sd.Scene) (vs vr:V):V:=.agg [.int .i64 s.c.mode,.int .i64 s.c.pt.cls,.int .i64 s.c.pt.now.a,.int .i64 s.c.pt.now.b,.int .i64 s.c.pt.now.c,.int .i64 s.c.pt.now.d,.int .i64 s.c.cA.l5,.int .i64 s.c.cA.source,.int .i64 s.c.cA.seq,
 .int .i64 s.c.pt.eo.l5,.int .i64 s.c.pt.eo.source,.int .i64 s.c.pt.eo.seq,vs,vr,.dS .u8 32 s.c.head]
structure TR where
 xs:Option Addr
 cs:Nat
 ts:Nat
 us:List Value
 fv:Nat->SlV
 xr:Option Addr
 cr:Nat
 tr:Nat
 ur:List Value
def TR.sB (r:TR) (s:Sd.Scene):VB:=GI r.ts 2 s.sent.length (xF s.sent r.fv) r.us
def TR.rB (r:TR) (s:Sd.Scene):VB:=GI r.tr 6 s.recs.length (DH s.recs) r.ur
def TR.v (r:TR) (s:Sd.Scene) (i:Nat):V:=Rs s (.ij i 0 s.sent.length r.cs r.xs) (.ij (i+1) 0 s.recs.length r.cr r.xr)
def oC (k:LK) (sv:Sd.Scene) (K:LKb fr k):Prop:=∀(s':Sd.Scene),s'=sv->∀(r:TR) (fn:List ax) (F0:cw fr (bV k (ji s'))),cF=F0.vs->cF=F0.vr->LR fr s'.sent r.fv fn->K (r.v s' 0) (ji s') F0 fn [r.sB s',r.rB s']
theorem Xo {k:LK} {s':Sd.Scene} (F':cw fr (bV k s')):∃F0:cw fr (bV k (ji s')),cF=F0.vs/\cF=F0.vr/\F0.B=F'.Bq++F'.Bk:=
 ⟨⟨none,0,none,0,F'.Bq,[],[],[],F'.Bk,[],F'.hq,ib 6 65,ib 2 69,.nil,F'.hk⟩,rfl,rfl,rfl⟩
theorem IY {ms:List Nat} {w0 w:World} {z T n c:Nat} {olds:List Value} {x:Option Addr} {B R:List ax} {k:LK} {g:Nat->List Value} (h:eH z T olds x n c B) (S:St ms w0 (B++R) w) (lY:(⟨0,false,.cells (af [] (aF k).c).toArray k.tg (0,0)⟩:ax)∈R) (hg:olds=(List.range n).flatMap g):
 ∃(i ty:Nat) (us:List Value),Value.slice x n c=.slice (bif Nat.beq n 0 then x else some ⟨i,0,none⟩) n c/\St ms w0 (⟨i,false,.cells ((List.range n).flatMap g++us).toArray ty (0,0)⟩::R) w:=by
 rcases h.2.2 with⟨rfl,rfl,rfl,rfl⟩|⟨b,tail,rfl,rfl,_⟩
 ·exact⟨0,k.tg,af [] (aF k).c,rfl,by simpa using S.dup lY rfl⟩
 ·refine⟨b,T,tail,?_,?_⟩
  ·cases Nat.beq n 0<;>rfl
  ·rw[<-hg];exact S.CU
theorem kW {f n:Nat} {M:World->LM fr} {L:List (dF (Gh fr))} (hL:ah prog gS L)
 (h:∀(u:World) (ar:List V) (k:LK) (s:Sd.Scene) (F:cw fr (bV k s)) (Kb:LKb fr k),cG 0 ar=true->s.c.p.queue=k.most->M u ar k s F Kb->cI (dw prog gS L) n f (.ptr 2 0::ar) (gi k s) [cx k s F] (oz k s λs' F'=>oC k s' Kb)):oB f M:=by
 intro u ar k s F Kb a b R0 ms w0 w h0 hq hM S;generalize hR:dV u++R0=R at S⊢;have hg:Gl gS (ca a b):=by
  intro g i iu;unfold gS at iu;split at iu
  ·obtain rfl:=Option.some.inj iu;exact⟨by simp,rfl⟩
  ·obtain rfl:=Option.some.inj iu;exact⟨by simp,rfl⟩
  ·cases iu
 refine(bw hL.T hL.Q n (C:=dw prog gS L) (ids:=ca a b) (bl:=gi k s) (ch:=[cx k s F]) (R:=R) (ms:=ms) (w0:=w0) (w:=w) hg rfl (by
  have e:ag [cx k s F] R=F.B++R:=rfl;rw[e];exact S) (h u ar k s F Kb h0 hq hM)).mono ?_
 rintro v w' ⟨x,more,bl',ch',rfl,h1,S',s',F',rfl,hb,rfl,hT⟩;have hl4:(gi k s').length=4:=rfl;have fW:bl'=gi k s'++bl'.drop 4:=by rw[<-hb,List.take_append_drop]
 rw[fW]at S';have e2:lits (ca a b++more) (ca a b++more) (gi k s'++bl'.drop 4)=lits (ca a b) (ca a b) (gi k s')++lits (ca a b++more) more (bl'.drop 4):=by
  rw[aQ _ _ _ _ (by rw[hl4];rfl)];rw[aR (ids:=ca a b) (more:=more) (ca a b) (gi k s') rfl]
 rw[e2]at S';obtain⟨F0,v1,v2,hB⟩:=Xo F';have e3:ag [cx k s' F'] R=F'.Br++(F'.Bs++(F'.Bf++(F'.Bq++F'.Bk)))++R:=rfl;rw[e3]at S';have ng:gi k (ji s')=gi k s':=rfl;have S1:St ms w0 (F'.Br++(F'.Bs++(lits (ca a b) (ca a b) (gi k (ji s'))++(F0.B++(F'.Bf++R))))) w':=by
  rw[ng,hB];have S2:St ms w0 (lits (ca a b) (ca a b) (gi k s')++(F'.Br++(F'.Bs++(F'.Bf++(F'.Bq++F'.Bk)))++R)) w':=by
   refine S'.sub ?_;simp only[List.append_assoc];exact List.Sublist.append_left (List.sublist_append_right _ _) _
  exact S2.perm (cH λf=>by simp only[List.countP_append];omega)
 have lY:(⟨0,false,.cells (af [] (aF k).c).toArray k.tg (0,0)⟩:ax)∈lits (ca a b) (ca a b) (gi k (ji s')):=by
  have:aL (ca a b) 0 (aF k)=aL [] 0 (aF k):=cj (gC k);show _∈aL (ca a b) 0 (aF k)::_;rw[this];exact List.mem_cons_self
 obtain⟨fv,hso,hfr⟩:=Xn F'.hf;have S2:=S1.perm (bs':=F'.Bs++(F'.Br++(lits (ca a b) (ca a b) (gi k (ji s'))++(F0.B++(F'.Bf++R))))) (cH λf=>by simp only[List.countP_append];omega);obtain⟨i1,t1,u1,q1,S3⟩:=IY (k:=k) F'.hs S2 (by simp[lY]) hso;have S3':St ms w0 (⟨i1,false,.cells ((List.range s'.sent.length).flatMap (xF s'.sent fv)++u1).toArray t1 (0,0)⟩::(F'.Br++(lits (ca a b) (ca a b) (gi k (ji s'))++(F0.B++(F'.Bf++R))))) w':=S3;have S4:=S3'.perm (bs':=F'.Br++(⟨i1,false,.cells ((List.range s'.sent.length).flatMap (xF s'.sent fv)++u1).toArray t1 (0,0)⟩::(lits (ca a b) (ca a b) (gi k (ji s'))++(F0.B++(F'.Bf++R))))) (cH λf=>by simp only[List.countP_append,List.countP_cons];omega);obtain⟨i2,t2,u2,q2,S5⟩:=IY (k:=k) F'.hr S4 (by simp[lY]) (DJ s'.recs).symm
 let r:TR:=⟨F'.xs,F'.cs,t1,u1,fv,F'.xr,F'.cr,t2,u2⟩
 refine⟨_,_,F0,F'.Bf,_,[i1,i2],rfl,?_,rfl,hT _ rfl r F'.Bf F0 v1 v2 hfr,?_⟩
 ·simp only[TR.v,Rs,yx,cw.vs,cw.vr,den,af,cl];have e1:Value.slice F'.xs (bV k s').sent.length F'.cs=_:=q1;have e2:Value.slice F'.xr (bV k s').recs.length F'.cr=_:=q2;rw[e1,e2];rfl
 ·have e1:lits [i1,i2] [i1,i2] [r.sB s',r.rB s']=[⟨i1,false,.cells ((List.range s'.sent.length).flatMap (xF s'.sent fv)++u1).toArray t1 (0,0)⟩,⟨i2,false,.cells ((List.range s'.recs.length).flatMap (DH s'.recs)++u2).toArray t2 (0,0)⟩]:=by
   simp only[lits,aL,TR.rB,TR.sB,IX,r];rfl
  rw[e1];have S6:St ms w0 (⟨i2,false,.cells ((List.range s'.recs.length).flatMap (DH s'.recs)++u2).toArray t2 (0,0)⟩::(⟨i1,false,.cells ((List.range s'.sent.length).flatMap (xF s'.sent fv)++u1).toArray t1 (0,0)⟩::(lits (ca a b) (ca a b) (gi k (ji s'))++(F0.B++(F'.Bf++R))))) w':=S5;refine S6.perm ?_;exact cH λf=>by simp only[List.countP_append,List.countP_cons,List.countP_nil];omega
structure ba (k:LK) (s:Sd.Scene):Prop where
 i:Sd.Inv s.c
 x:Sd.Ext s.c
 key:∀i,i<4->1<=k.kn i/\k.kn i<=64
 ke:∀i,i<4->s.c.p.k i=(k.kn i,k.kf i)
 e1:s.sent=[]
 e2:s.recs=[]
theorem ba.rm {k:LK} {s:Sd.Scene} (h:ba k s) (n:Nat) (hn:n<=1000):Rm s n:=⟨by rw[h.e1];simpa using hn,by rw[h.e2];simpa using hn⟩
theorem ba.tb {k:LK} {s:Sd.Scene} (h:ba k s):TB s.c.t:=⟨h.i.tok.holder,h.i.eC⟩
theorem ba.tk {k:LK} {s:Sd.Scene} (h:ba k s):TkP s where
 c:=⟨h.i.p,h.tb,h.x.t.oa.1,h.x.t.oa.2,h.x.t.la.1,h.x.t.la.2,by rcases h.i.tok.offer with e|e<;>omega,
  λa ha=>by
   obtain⟨_,h1,h2,_,_,h3,h4,h5⟩:=h.i.q.each a ha;have:=h.i.p.ask;exact⟨⟨by omega,by omega⟩,⟨by omega,by omega⟩,⟨by omega,by omega⟩⟩,
  ⟨h.x.pt.bZ.1,h.x.pt.bZ.2.1,h.x.pt.bZ.2.2.1,h.x.pt.bZ.2.2.2,h.x.pt.now.1,h.x.pt.now.2.1,h.x.pt.now.2.2.1,h.x.pt.now.2.2.2⟩⟩
 r:=h.rm 28 (by decide)
 h:=h.x.tab.hi
 b:=⟨h.x.tab.st,h.x.tab.ss 0,h.x.tab.ss 1,h.x.tab.ss 2⟩
def A4 (C:Sd.Crypt):LM fr:=λar k s F K=>match ar with
 |[]=>(ba k s/\cF=F.vs/\cF=F.vr)/\oC k (s.tick C) K
 |_=>False
def wK (C:Sd.Crypt):LM fr:=λar k s F K=>match ar with
 |[.bool b]=>(ba k s/\cF=F.vs/\cF=F.vr)/\oC k (s.fM C b) K
 |_=>False
def wL (C:Sd.Crypt):LM fr:=λar k s F K=>match ar with
 |[.agg xl]=>(match KC xl with
  |some x=>(ba k s/\cF=F.vs/\cF=F.vr)/\oC k (s.cV C x) K
  |none=>False)
 |_=>False
def gP (C:Sd.Crypt) (s:Sd.Scene) (l code:Int) (n:Nat) (f:Sd.Byt):Sd.Scene:=if 1<=l/\l<=3 then s.item C l code n f else s
def Rt (C:Sd.Crypt):LM fr:=λar k s F K=>match ar with
 |[.int .i64 l,.agg [.int .i64 code,.raw vp]]=>(ba k s/\cF=F.vs/\cF=F.vr/\vp=dX k/\k.pn<=58/\By k.pf)/\oC k (gP C s l code k.pn k.pf) K
 |_=>False
def Ru:LM fr:=λar k s F K=>match ar with
 |[]=>(ba k s/\cF=F.vs/\cF=F.vr)/\oC k s K
 |_=>False
theorem Xp {k:LK} {s:Sd.Scene} {F:cw fr (bV k s)} (hq:s.c.p.queue=k.most) (h1:cF=F.vs) (h2:cF=F.vr):Q7 k s F:=⟨h1,h2,rfl,rfl,rfl,rfl,rfl,hq⟩
section
variable(k:LK) (s:Sd.Scene) (F:cw fr (bV k s)) (Kb:(s':Sd.Scene)->cw fr (bV k s')->Prop)
theorem Xq (C:Sd.Crypt):cI (dw prog gS (LC fr C)) 60 17 [.ptr 2 0] (gi k s) [cx k s F] (oz k s Kb)=oz k s Kb (.agg (yx s cF cF)) (gi k s) [cx k s F]:=by kernel_rfl
end
end Go.Proofs.YtlkpikfddnjilaaGreatDoor
namespace Go.Proofs.YtlkpikfddnjilaaGreatDoor
open Go Go.RowKit Go.BigFrame Sx Vx
variable{fr:Sd.Reply->Nat×Sd.Byt}
section
variable(ht:Body (fr:=fr) 130 bM)
include ht
theorem wM:oB (fr:=fr) 15 (λ_=>A4 (aj b_)):=by
 refine kW (n:=60) (Dx ht) ?_;intro u ar k s F Kb h0 hq hM;unfold A4 at hM;split at hM
 ·rw[Q8];exact⟨Xp hq hM.1.2.1 hM.1.2.2,fc (M:=Dw (aj b_)) ⟨hM.1.1.tk,λF'=>⟨_,F',rfl,rfl,rfl,hM.2⟩⟩⟩
 ·exact hM.elim
theorem A5:oB (fr:=fr) 36 (λ_=>wK (aj b_)):=by
 refine kW (n:=60) (Dx ht) ?_;intro u ar k s F Kb h0 hq hM;unfold wK at hM;split at hM
 ·rename_i b;rw[Gy];exact⟨Xp hq hM.1.2.1 hM.1.2.2,fc (M:=q_ (aj b_)) ⟨⟨hM.1.1.rm 8 (by decide),hM.1.1.tb⟩,λF'=>⟨_,F',rfl,rfl,rfl,hM.2⟩⟩⟩
 ·exact hM.elim
theorem A6:oB (fr:=fr) 35 (λ_=>wL (aj b_)):=by
 refine kW (n:=60) (Dx ht) ?_;intro u ar k s F Kb h0 hq hM;unfold wL at hM;split at hM
 ·rename_i xl;split at hM
  ·rename_i x hx;obtain rfl:=ue hx;rw[Gz];have hb:dp s.c.samples:=⟨by have:=hM.1.1.i.samples;omega,by have:=hM.1.1.i.samples;omega⟩;refine⟨Xp hq hM.1.2.1 hM.1.2.2,fc (M:=Qi (aj b_)) ?_⟩;show(St0 s/\dp s.c.samples/\dp s.c.beyond)/\_;exact⟨⟨⟨hM.1.1.rm 8 (by decide),hM.1.1.i.p,hM.1.1.tb⟩,hb,hM.1.1.x.be⟩,λF'=>⟨_,F',rfl,rfl,rfl,hM.2⟩⟩
  ·exact hM.elim
 ·exact hM.elim
theorem GJ:oB (fr:=fr) 22 (λ_=>Rt (aj b_)):=by
 refine kW (n:=60) (Dx ht) ?_;intro u ar k s F Kb h0 hq hM;unfold Rt at hM;split at hM
 ·rename_i l code vp;have hC:=hM.1.1;have v1:=hM.1.2.1;have v2:=hM.1.2.2.1;have p1:=hM.1.2.2.2.2.1;have p2:=hM.1.2.2.2.2.2;have hT:=hM.2;rw[hM.1.2.2.2.1,Q9];unfold ag9;have Mv:¬(1<=l/\l<=3)->oz k s (λs' F'=>oC k s' Kb) (.agg (yx s cF cF)) (gi k s) [cx k s F]:=λh=>⟨s,F,by rw[<-v1,<-v2],rfl,rfl,by unfold gP at hT;rw[if_neg h]at hT;exact hT⟩;refine aO (λe1=>aO (λe2=>?_) (λe2=>Mv (by simp at e1 e2;omega))) (λe1=>Mv (by simp at e1;omega));have hl:1<=l/\l<=3:=by simp at e1 e2;omega
  unfold gP at hT;rw[if_pos hl]at hT;have hd:∀i,i<3->(s.c.doors i).many<=9223372036854775807:=λi _=>by have:=hC.x.d i;omega
  exact⟨Xp hq v1 v2,fc (M:=Dt (aj b_)) ⟨⟨rfl,⟨hC.rm 8 (by decide),hC.i,hl,hd,hC.key,hC.ke,p1,p2⟩⟩,λF'=>⟨_,F',rfl,rfl,rfl,hT⟩⟩⟩
 ·exact hM.elim
theorem LS:oB (fr:=fr) 17 (λ_=>Ru (fr:=fr)):=by
 refine kW (n:=60) (Dx ht) ?_;intro u ar k s F Kb h0 hq hM;unfold Ru at hM;split at hM
 ·rw[Xq];exact⟨s,F,by rw[<-hM.1.2.1,<-hM.1.2.2],rfl,rfl,hM.2⟩
 ·exact hM.elim
end
def xG (l:List Sd.Ask) (j:Nat):List Value:=[.int .i64 (l.getD j default).source]
theorem DK:∀(l:List Sd.Ask) (ids:List Nat),(List.range l.length).flatMap (xG l)=af ids (wz l)
 |[],_=>rfl
 |r::l,ids=>by
  rw[List.length_cons,List.range_succ_eq_map,List.flatMap_cons,List.flatMap_map];have e:(λj=>xG (r::l) (Nat.succ j))=xG l:=by funext j;rfl
  rw[e,DK l ids];rfl
def ahb (k:LK) (s:Sd.Scene) (F:cw fr (bV k s)) (K:LKb fr k):Prop:=
 ∀(x:Option Addr) (c ty:Nat) (us:List Value),K (.agg (oA s (.ij 0 0 s.c.q.length c x))) s F [] [GI ty 1 s.c.q.length (xG s.c.q) us]
def A7:LM fr:=λar k s F K=>match ar with
 |[]=>ahb k s F K
 |_=>False
theorem GK (l:List Sd.Ask) (u:List Value):dE 0 [GA l u]=true:=by
 have:∀l:List Sd.Ask,cG 0 (wz l++[.rest u])=true:=by
  intro l;induction l with
  |nil=>rfl
  |cons a l ih=>simp only[wz,List.cons_append,cG,fu,ih,Bool.and_self]
 simp only[dE,GA,this,Bool.and_self]
theorem lN {Q:Prop} (hq:Q):∀(n j:Nat),n+j<=5->Xb n j Q
 |0,_,_=>hq
 |n+1,j,h=>⟨trivial,⟨by omega,by omega⟩,trivial,trivial,lN hq n (j+1) (by omega)⟩
theorem wN (ht:Body (fr:=fr) 130 bM):oB (fr:=fr) 12 (λ_=>A7 (fr:=fr)):=by
 intro u0 ar k s F Kb a b R0 ms w0 w h0 hq hM S;generalize hR:dV u0++R0=R at S⊢;unfold A7 at hM;split at hM
 ·have hg:Gl gS (ca a b):=by
   intro g i iu;unfold gS at iu;split at iu
   ·obtain rfl:=Option.some.inj iu;exact⟨by simp,rfl⟩
   ·obtain rfl:=Option.some.inj iu;exact⟨by simp,rfl⟩
   ·cases iu
  let K:VK (Gh fr):=λv bl ch=>ch=[cx k s F]/\((s.c.q=[]/\v=.agg (oA s (.raw cF))/\bl=gi k s)\/(s.c.q≠[]/\∃c u,v=.agg (oA s (.sl 4 0 s.c.q.length c))/\bl=gi k s++[GA s.c.q u]))
  have k0:s.c.q=[]->K (.agg (oA s (.raw cF))) (gi k s) [cx k s F]:=λe=>⟨rfl,.inl ⟨e,rfl,rfl⟩⟩;have k1:s.c.q≠[]->∀c u,K (.agg (oA s (.sl 4 0 s.c.q.length c))) (gi k s++[GA s.c.q u]) [cx k s F]:=λe c u=>⟨rfl,.inr ⟨e,c,u,rfl,rfl⟩⟩;have fI:cI (nz prog gS (L8 fr (aj b_)) (NP prog) ua) 60 12 [.ptr 2 0] (gi k s) [cx k s F] (du 4 K):=by
   rw[Xc];refine⟨rfl,λe x c=>lN (k0 e) 5 0 (by decide),λa1 e c t c1 u1 _ _=>?_,λa1 b1 e c t c1 u1 h1 h2=>?_,λa1 b1 d1 e c t c1 u1 h1 h2=>?_⟩
   ·have:=k1 (by rw[e];simp) c1 u1;rw[e]at this;exact lN this 5 0 (by decide)
   ·have hk:=k1 (by rw[e];simp);rw[e]at hk;exact⟨⟨h1,h2⟩,λc2 u2 _ _=>lN (hk c2 u2) 5 0 (by decide),λc2 u2 _ _=>lN (hk c2 u2) 5 0 (by decide)⟩
   ·have hk:=k1 (by rw[e];simp);rw[e]at hk;exact⟨⟨h1,h2⟩,λc2 u2 g1 g2=>⟨⟨g1,g2⟩,λc3 u3 _ _=>lN (hk c3 u3) 5 0 (by decide),λc3 u3 _ _=>lN (hk c3 u3) 5 0 (by decide)⟩,λc2 u2 g1 g2=>⟨⟨g1,g2⟩,λc3 u3 _ _=>lN (hk c3 u3) 5 0 (by decide),λc3 u3 _ _=>lN (hk c3 u3) 5 0 (by decide)⟩⟩
  refine(bw (v8 b_ ht).T (v8 b_ ht).Q 60 (C:=nz prog gS (L8 fr (aj b_)) (NP prog) ua) (ids:=ca a b) (bl:=gi k s) (ch:=[cx k s F]) (R:=R) (ms:=ms) (w0:=w0) (w:=w) hg rfl (by
   have e:ag [cx k s F] R=F.B++R:=rfl;rw[e];exact S) fI).mono ?_
  rintro v w' ⟨x,more,bl',ch',rfl,h1,S',hK⟩;obtain⟨v2,aS,bl2,hv,gH,S2,rfl,J_⟩:=dr (n0:=4) h1 (by simp) S' hK;have ht4:(ca a b++more).take 4=ca a b:=rfl;rw[ht4]at hv gH S2;have eR:ag [cx k s F] R=F.B++R:=rfl;rw[eR]at S2;rw[hv];have jM:∀(i ty:Nat) (us:List Value),lits [i] [i] [GI ty 1 s.c.q.length (xG s.c.q) us]=[⟨i,false,.cells ((List.range s.c.q.length).flatMap (xG s.c.q)++us).toArray ty (0,0)⟩]:=λi ty us=>by
   simp only[lits,aL,IX];rfl
  rcases J_ with⟨e,rfl,rfl⟩|⟨e,c,u,rfl,rfl⟩
  ·obtain rfl:aS=[]:=List.eq_nil_of_length_eq_zero (by simpa[gi]using gH);refine⟨_,s,F,[],_,[0],rfl,?_,rfl,hM none 0 k.tg (af [] (aF k).c),?_⟩
   ·simp only[oA,l9,Ts,den,af,cl,List.append_nil,List.cons_append,List.nil_append,e];rfl
   ·simp only[List.append_nil]at S2;have S3:=S2.dup (b:=aL [0] 0 (aF k)) (by
     refine List.mem_append_left _ ?_;rw[cj (ids':=ca a b) (gC k)];exact List.mem_cons_self) rfl
    rw[jM];have e2:(⟨0,false,.cells ((List.range s.c.q.length).flatMap (xG s.c.q)++af [] (aF k).c).toArray k.tg (0,0)⟩:ax)=aL [0] 0 (aF k):=by
     rw[e,cj (ids':=[]) (gC k)];rfl
    rw[e2];exact S3.perm List.perm_middle.symm
  ·match aS,gH with
   |[x],_=>
    refine⟨_,s,F,[],_,[x],rfl,?_,rfl,hM none c 3 u,?_⟩
    ·have hn:Nat.beq s.c.q.length 0=false:=by
      cases hb:Nat.beq s.c.q.length 0 with
      |false=>rfl
      |true=>exact absurd (List.eq_nil_of_length_eq_zero (Nat.eq_of_beq_eq_true hb)) e
     have hg4:(ca a b++[x]).getD 4 0=x:=rfl;have hg1:([x]:List Nat).getD 0 0=x:=rfl;simp only[oA,l9,Ts,den,af,cl,List.append_nil,List.cons_append,List.nil_append,hn,cond_false,hg4,hg1];rfl
    ·have e2:lits (ca a b++[x]) (ca a b++[x]) (gi k s++[GA s.c.q u])=lits (ca a b) (ca a b) (gi k s)++[⟨x,true,.cells ((List.range s.c.q.length).flatMap (xG s.c.q)++u).toArray 3 (0,0)⟩]:=by
      rw[aQ _ _ _ _ rfl,aR (ids:=ca a b) (more:=[x]) (ca a b) (gi k s) rfl,fE (ids':=[x]) [x] _ (GK _ _)];simp only[lits,aL,GA,bj,af,cl,List.append_nil,DK s.c.q [x]]
     rw[e2]at S2;have S3:=(S2.perm (bs':=⟨x,true,.cells ((List.range s.c.q.length).flatMap (xG s.c.q)++u).toArray 3 (0,0)⟩::(lits (ca a b) (ca a b) (gi k s)++(F.B++R))) (cH λf=>by simp only[List.countP_append,List.countP_cons,List.countP_nil];omega)).CU;rw[jM];exact S3.perm (cH λf=>by simp only[List.countP_append,List.countP_cons,List.countP_nil];omega)
   |[],h=>simp[gi]at h
   |_::_::_,h=>simp[gi]at h
 ·exact hM.elim
theorem Xr (d:Fd) (h:(∃i,i<4/\d=fX i)\/∀v m,(d.set v m).x=m.x):∀v,d.low<=v->v<=d.high->∀m:Sd.db,Sd.Eo m.x->Sd.Eo (d.set v m).x:=by
 intro v h1 h2 m hm;rcases h with⟨i,hi,rfl⟩|h
 ·have hv:Sd.Bd v:=⟨by have:(-32768:Int)<=v:=h1;omega,by have:v<=(32767:Int):=h2;omega⟩;have:i=0\/i=1\/i=2\/i=3:=by omega
  rcases this with rfl|rfl|rfl|rfl
  ·exact⟨hv,hm.2.1,hm.2.2.1,hm.2.2.2⟩
  ·exact⟨hm.1,hv,hm.2.2.1,hm.2.2.2⟩
  ·exact⟨hm.1,hm.2.1,hv,hm.2.2.2⟩
  ·exact⟨hm.1,hm.2.1,hm.2.2.1,hv⟩
 ·rw[h];exact hm
theorem ahc {n:Nat} {f:Nat->Int} {m:Sd.db} (h:b_ n f=some m):Sd.Eo m.x:=by
 unfold b_ at h;split at h
 ·cases h
 split at h
 ·rename_i l hl;refine rf (λm=>Sd.Eo m.x) l 1 _ m ?_ Sd.x40 h;intro d hd;refine Xr d ?_;have fx:∀i,i<4->(∃j,j<4/\fX i=fX j)\/∀v m,((fX i).set v m).x=m.x:=λi hi=>.inl ⟨i,hi,rfl⟩;have b0:=fx 0 (by decide);have b1:=fx 1 (by decide);have b2:=fx 2 (by decide);have b3:=fx 3 (by decide)
  have fo:∀d:Fd,(∀v m,(d.set v m).x=m.x)->(∃i,i<4/\d=fX i)\/∀v m,(d.set v m).x=m.x:=λd h=>.inr h;have a1:=fo vI λ_ _=>rfl;have a2:=fo iO λ_ _=>rfl;have a3:=fo fTo λ_ _=>rfl;have a4:=fo gW λ_ _=>rfl;have a5:=fo yi λ_ _=>rfl;have a6:=fo xC λ_ _=>rfl;have a7:=fo KX λ_ _=>rfl
  unfold mV at hl
  repeat' split at hl
  all_goals first|(cases hl;done)|(obtain rfl:=Option.some.inj hl;simp at hd;rcases hd with rfl|rfl|rfl|rfl|rfl|rfl|rfl<;>assumption)|(obtain rfl:=Option.some.inj hl;simp at hd;rcases hd with rfl|rfl|rfl|rfl|rfl|rfl<;>assumption)|(obtain rfl:=Option.some.inj hl;simp at hd;rcases hd with rfl|rfl|rfl|rfl|rfl<;>assumption)|(obtain rfl:=Option.some.inj hl;simp at hd;rcases hd with rfl|rfl|rfl|rfl<;>assumption)|(obtain rfl:=Option.some.inj hl;simp at hd;rcases hd with rfl|rfl|rfl<;>assumption)|(obtain rfl:=Option.some.inj hl;simp at hd;rcases hd with rfl|rfl<;>assumption)|(obtain rfl:=Option.some.inj hl;simp at hd;subst hd;assumption)|(obtain rfl:=Option.some.inj hl;simp at hd)
 ·cases h
section
variable{k:LK} {s:Sd.Scene} {b:Prop}
theorem Rv {C:Sd.Crypt} {s':Sd.Scene} {kind l:Int} (e:Sd.lF C b s s' kind l):s'.c.p=s.c.p:=by
 rcases e.Fm with h|⟨how,h,_⟩
 ·exact h.p
 ·exact h.p
theorem ba.of {C:Sd.Crypt} {s':Sd.Scene} {kind l:Int} (h:ba k s) (e:Sd.lF C b s s' kind l) (x:Sd.Ext s'.c):ba k (ji s'):=⟨e.1,x,h.key,λi hi=>by show s'.c.p.k i=_;rw[Rv e];exact h.ke i hi,rfl,rfl⟩
theorem ba.tick (h:ba k s):ba k (ji (s.tick (aj b_))):=h.of (b:=False) (Sd.wF h.i).1 (Sd.Rq h.i h.x)
theorem ba.fM (h:ba k s) (x:Bool):ba k (ji (s.fM (aj b_) x)):=h.of (b:=False) (Sd.pB h.i) (Sd.GH h.x)
theorem ba.cV (h:ba k s) {x:Sd.dq} (hx:Sd.Eo x.x):ba k (ji (s.cV (aj b_) x)):=h.of (b:=False) (Sd.pz h.i) (Sd.GG hx h.i.p h.x)
theorem ba.item (h:ba k s) (l code:Int) (n:Nat) (f:Sd.Byt):ba k (ji (gP (aj b_) s l code n f)):=by
 unfold gP;split
 ·rename_i hl;exact h.of (b:=False) (Sd.vE iy h.i hl (λe=>e.elim)) (Sd.Ro (λ_ _ _ hm=>ahc hm) hl h.i.p h.x)
 ·exact⟨h.i,h.x,h.key,h.ke,rfl,rfl⟩
end
def de (u:World) (a:Option Addr):Sd.Byt:=λj=>match a with
 |some x=>(match u.cell? (x.add j)with|some (.int _ v)=>if 0<=v/\v<=255 then v else 0|_=>0)
 |none=>0
theorem Xs (u:World) (a:Option Addr):By (de u a):=by
 intro j;unfold de;split
 ·split
  ·split
   ·assumption
   ·exact⟨by decide,by decide⟩
  ·exact⟨by decide,by decide⟩
 ·exact⟨by decide,by decide⟩
theorem ac7 {u:World} {a:Option Addr} {n c:Nat} {f:Nat->Int} (h:eA u a n c f) (hb:∀j,j<n->0<=f j/\f j<=255):eA u a n c (de u a):=by
 refine⟨h.1,h.2.1,λx e j hj=>?_⟩;have hc:=h.2.2 x e j hj;have:de u a j=f j:=by
  unfold de;rw[e];simp only[hc];rw[if_pos (hb j hj)]
 rw[this];exact hc
def l0:Sd.Byt:=λ_=>0
def dD (n d:Nat) (f:Sd.Byt):VB:=⟨true,⟨5,(0,0)⟩,[.dS .u8 n f,.dS .u8 d l0]⟩
theorem j8 (ids:List Nat) (n d:Nat) (f:Sd.Byt):(af ids (dD n d f).c).toArray=cN n f (n+d):=by
 have e:(List.range d).map (λj=>Value.int .u8 (l0 j))=List.replicate d (.int .u8 0):=by
  show(List.range d).map (λ_=>Value.int .u8 0)=_;rw[List.map_const'];simp
 simp only[dD,af,cl,cN,fi,List.append_nil,e];rw[show n+d-n=d by omega]
theorem Rw {u w:World} {B:List ax} {ms:List Nat} {w0:World} (S:St ms w0 B w) (h:∀y∈dV u,y∈B) {x:Addr} {v:Value} (hc:u.cell? x=some v):w.cell? x=some v:=by
 unfold World.cell? at hc⊢;split at hc
 ·rename_i cs ty fr' hb;have:=S.at' (h _ (Cn hb));simp only at this;rw[this];exact hc
 ·cases hc
theorem GL {u w:World} {B:List ax} {ms:List Nat} {w0:World} (S:St ms w0 B w) (h:∀y∈dV u,y∈B) {a:Option Addr} {n c:Nat} {f:Nat->Int} (hk:eA u a n c f):eA w a n c f:=
 ⟨hk.1,hk.2.1,λx e j hj=>Rw S h (hk.2.2 x e j hj)⟩
theorem rA {w:World} {m:Nat} {g:Nat->Int} {x:Option Addr} {t tx ty:TypeId} {xv:Value} (hs:Src prog 1 tx xv m (fi m g) w) (ht:prog.underlying t=some (.slice 5)) (hm:0<m) (hb:m<=140737488355328) (x:Addr):
 ∃c' w',(Builtin.append_ #[t,tx] ty #[.slice (some x) 0 0,xv]).run prog w=.ok (.slice (some ⟨w.heap.size,0,none⟩) m c') w'/\Ch [] w w'/\m<=c'/\w'.heap[w.heap.size]?=some (.cells (cN m g c') 5 (0,0)):=by
 have hi:(prog.info? 5).map (λi=>(i.zero.map (·.cells),i.size,i.bytes))=some (some #[.int .u8 0],1,1):=by kernel_rfl
 obtain⟨i,aI,hi⟩:=Option.map_eq_some_iff.1 hi;simp only[Prod.mk.injEq]at hi;obtain⟨hz,iQ,Bn⟩:=hi;obtain⟨z0,Eg,Jp⟩:=Option.map_eq_some_iff.1 hz;have w9:Src prog i.size tx xv m (fi m g) w:=by rw[iQ];exact hs
 have hold:(Builtin.firstCells i.size 0 (.slice (some x) 0 0)).run prog w.drew=.ok (([]:List Value).toArray) w.drew:=
  run_firstCells_some (P:=prog) w.drew i.size 0 x 0 0 [] (by rw[Nat.zero_mul];rfl) (λj v hj=>nomatch hj)
 have a_:=run_append_grow_src (P:=prog) w t tx ty 5 i z0 ht aI Eg (some x) 0 0 [] hold xv m (fi m g) w9 (by omega) (by omega) (by rw[Bn];exact growslice_fits (by omega) (by omega));have mj:=grownCap_ge w (0+m) 0 5;rw[Nat.zero_add]at a_ mj;refine⟨_,_,a_,((Ch.refl [] w).drew).trans (Ch.alloc [] w.drew _) (λx hx=>.inl hx),mj,?_⟩;have:=heap_alloc_new w.drew (.cells (([]++fi m g).toArray++Builtin.zeroCells z0.cells (grownCap w m 0 5-m)) 5);refine Eq.trans this ?_;congr 2;apply Array.ext';rw[Jp,Array.toList_append,oJ];rfl
theorem yB {w:World} {g:Nat->Int} {t tx ty:TypeId} {xv:Value} (hs:Src prog 1 tx xv 0 (fi 0 g) w) (ht:prog.underlying t=some (.slice 5)) (x:Addr):
 (Builtin.append_ #[t,tx] ty #[.slice (some x) 0 0,xv]).run prog w=.ok (.slice (some x) 0 0) w:=by
 have hi:(prog.info? 5).map (λi=>(i.zero.map (·.cells),i.size,i.bytes))=some (some #[.int .u8 0],1,1):=by kernel_rfl
 obtain⟨i,aI,hi⟩:=Option.map_eq_some_iff.1 hi;simp only[Prod.mk.injEq]at hi;obtain⟨hz,iQ,Bn⟩:=hi;exact run_append_nothing (P:=prog) w t tx ty 5 i ht aI (some x) 0 0 (Nat.le_refl _) xv (by rw[iQ];exact hs)
def LU (k:LK) (x:Option Addr) (n c:Nat) (f:Sd.Byt):LK:={k with px:=x,pn:=n,pc:=c,pf:=f}
def wO (k:LK):Prop:=k.px=none/\k.pn=0/\k.pc=0
theorem ahd {k:LK} {s:Sd.Scene} (F:cw fr (bV k s)) (h:wO k) {b n c:Nat} {f:Sd.Byt} (hle:n<=c):∃F1:cw fr (bV (LU k (some ⟨b,0,none⟩) n c f) s),F1.vs=F.vs/\F1.vr=F.vr/\F1.B=F.B++[⟨b,true,.cells (cN n f c) 5 (0,0)⟩]:=by
 refine⟨⟨F.xs,F.cs,F.xr,F.cr,F.Bq,F.Br,F.Bs,F.Bf,F.Bk++[⟨b,true,.cells (cN n f c) 5 (0,0)⟩],F.so,F.hq,F.hr,F.hs,F.hf,?_⟩,rfl,rfl,?_⟩
 ·obtain⟨b0,b1,b2,b3,b4,hB,h0,h1,h2,h3,h4⟩:=F.hk;have e4:b4=[]:=by
   rcases h4.2 with⟨_,_,_,e⟩|⟨y,e,_⟩
   ·exact e
   ·have:k.px=some ⟨y,0,none⟩:=e;rw[h.1]at this;cases this
  subst e4;exact⟨b0,b1,b2,b3,[⟨b,true,.cells (cN n f c) 5 (0,0)⟩],by rw[hB];simp,h0,h1,h2,h3,hle,.inr ⟨b,rfl,rfl⟩⟩
 ·simp only[cw.B,List.append_assoc]
theorem ac8 {k:LK} {s:Sd.Scene} (h:wO k) {b n c:Nat} {f:Sd.Byt} (F1:cw fr (bV (LU k (some ⟨b,0,none⟩) n c f) s)):∃F:cw fr (bV k s),F.vs=F1.vs/\F.vr=F1.vr/\F1.B=F.B++[⟨b,true,.cells (cN n f c) 5 (0,0)⟩]:=by
 obtain⟨b0,b1,b2,b3,b4,hB,h0,h1,h2,h3,h4⟩:=F1.hk;have e4:b4=[⟨b,true,.cells (cN n f c) 5 (0,0)⟩]:=by
  rcases h4.2 with⟨e,_,_,_⟩|⟨y,e,e2⟩
  ·cases e
  ·have:(some ⟨b,0,none⟩:Option Addr)=some ⟨y,0,none⟩:=e;obtain rfl:b=y:=by simpa using this
   exact e2
 subst e4;refine⟨⟨F1.xs,F1.cs,F1.xr,F1.cr,F1.Bq,F1.Br,F1.Bs,F1.Bf,b0++(b1++(b2++(b3++[]))),F1.so,F1.hq,F1.hr,F1.hs,F1.hf,⟨b0,b1,b2,b3,[],rfl,h0,h1,h2,h3,by show k.pn<=k.pc;rw[h.2.1,h.2.2];exact Nat.le_refl _,.inl ⟨h.1,h.2.1,h.2.2,rfl⟩⟩⟩,rfl,rfl,?_⟩;simp only[cw.B,hB,List.append_assoc,List.append_nil]
def coI (C:Sd.Crypt):gZ (LG fr):=λargs bl ch K=>match args,ch with
 |[.ptr ic 0,.int .i64 l,.agg [.int .i64 code,.sl ip 0 n c]],.dC u::.core g fB::rest=>(match bl[ip]?with
  |some ⟨true,⟨5,(0,0)⟩,[.dS .u8 n' f,.dS .u8 d z]⟩=>(match bl[ic]?with
   |some ⟨true,⟨97,(0,0)⟩,cc⟩=>(match yl cc with
    |some x=>(match bl[x.it]?with
     |some ⟨true,⟨143,(0,0)⟩,tc⟩=>(match vP tc with
      |some y=>cond (dE bl.length bl&&(Nat.blt 1 ip&&(Nat.blt 1 ic&&(Nat.blt 1 x.it&&(!(Nat.beq ic x.it)&&(!(Nat.beq ic ip)&&!(Nat.beq x.it ip)))))))
       ((bl[0]?=some (aF g.d.k)/\bl[1]?=some (iq g.d.k)/\x=CX g.d.k x.it (ot x y g.d g.dx g.sx)/\y.b=x.p.bR/\y.m=x.p.bz/\x.p.queue=g.d.k.most)/\
         (n'=n/\n+d=c/\z=l0)/\wO g.d.k/\(ba g.d.k (ot x y g.d g.dx g.sx)/\cF=g.F.vs/\cF=g.F.vr/\n<=58/\By f)/\
         oC g.d.k (gP C (ot x y g.d g.dx g.sx) l code n f) λvv s' F' fn ex=>K (rv bl.length vv) (fS bl ic x.it g.d.k s'++ex) (.dC u::.core (cx g.d.k s' F') (fn++fB)::rest)) False
      |none=>False)
     |_=>False)
    |none=>False)
   |_=>False)
  |_=>False)
 |_,_=>False
theorem yC (ht:Body (fr:=fr) 130 bM):Sound prog gS 22 (coI (fr:=fr) (aj b_)):=by
 intro args ids bl ch R ms w0 w K hg hl S hc;unfold coI at hc;split at hc
 ·rename_i ic l code ip n c u g fB rest;split at hc
  ·rename_i n' f d z hbp;split at hc
   ·rename_i cc Th;split at hc
    ·rename_i x hx;split at hc
     ·rename_i tc Y8;split at hc
      ·rename_i y hy;cases hq:dE bl.length bl&&(Nat.blt 1 ip&&(Nat.blt 1 ic&&(Nat.blt 1 x.it&&(!(Nat.beq ic x.it)&&(!(Nat.beq ic ip)&&!(Nat.beq x.it ip))))))with
       |false=>rw[hq]at hc;exact hc.elim
       |true=>
        rw[hq]at hc;simp only[Bool.and_eq_true,Bool.not_eq_true',Nat.blt_eq]at hq;obtain⟨qw,q1,q2,q3,q4,q5,q6⟩:=hq;have nb:∀{a b:Nat},Nat.beq a b=false->a≠b:=λh e=>by rw[e,Nat.beq_refl]at h;cases h
        have n4:=nb q4;have n5:=nb q5;have n6:=nb q6;obtain⟨⟨e3,e4,e5,e6,e7,e8⟩,⟨rfl,rfl,rfl⟩,hnp,⟨hC,v1,v2,p1,p2⟩,hT⟩:=hc;obtain rfl:=qN hx;obtain rfl:=j7 hy;have H:Rr bl ic x.it g.d.k (ot x y g.d g.dx g.sx):=by
         refine⟨e3,e4,?_,?_⟩
         ·rw[Th];congr 1;unfold ee;rw[<-e5]
         ·rw[Y8];congr 1;unfold gp;have:y=VP (ot x y g.d g.dx g.sx):=by
           obtain⟨y1,y2,y3,y4,y5,y6,y7,y8⟩:=y;simp only at e6 e7;subst e6 e7;rfl
          rw[<-this]
        have l1:=ck hbp;have l2:=ck H.hc;have l3:=ck H.ht;obtain⟨r,hr,hp⟩:=vR (bl:=bl) (ids:=ids) hl (is:=[0,1,ic,x.it,ip]) (by simp;omega) (by
         intro i hi;simp only[List.mem_cons,List.not_mem_nil,or_false]at hi;rcases hi with rfl|rfl|rfl|rfl|rfl<;>omega)
        have emp:∀(bl':List VB),[0,1,ic,x.it,ip].map (λj=>aL ids (ids.getD j 0) (bl'.getD j g_))=([0,1,ic,x.it].map λj=>aL ids (ids.getD j 0) (bl'.getD j g_))++[aL ids (ids.getD ip 0) (bl'.getD ip g_)]:=λ_=>rfl;have ahe:aL ids (ids.getD ip 0) (dD n' d f)=⟨ids.getD ip 0,true,.cells (cN n' f (n'+d)) 5 (0,0)⟩:=by
         unfold aL;rw[j8];rfl
        have ef:=hp bl rfl;rw[emp,ry H hg,cL (show bl[ip]?=some (dD n' d f)from hbp)]at ef;obtain⟨F1,f1,f2,f3⟩:=ahd (k:=g.d.k) (s:=ot x y g.d g.dx g.sx) g.F hnp (b:=ids.getD ip 0) (f:=f) (Nat.le_add_right n' d);have S1:=S.perm (bs':=lits (ca (ids.getD ic 0) (ids.getD x.it 0)) (ca (ids.getD ic 0) (ids.getD x.it 0)) (gi g.d.k (ot x y g.d g.dx g.sx))++(F1.B++(dV u++((r.map λj=>aL ids (ids.getD j 0) (bl.getD j g_))++(fB++ag rest R))))) (by
         refine(ef.append_right _).trans ?_;rw[show F1.B=cw.B (d:=g.d) g.F++[⟨ids.getD ip 0,true,.cells (cN n' f (n'+d)) 5 (0,0)⟩]from f3,<-ahe];show(_++(dV u++((g.F.B++fB)++ag rest R))).Perm _;exact cH λf=>by simp only[List.countP_append];omega)
        have hC':ba (LU g.d.k (some ⟨ids.getD ip 0,0,none⟩) n' (n'+d) f) (ot x y g.d g.dx g.sx):=⟨hC.i,hC.x,hC.key,hC.ke,hC.e1,hC.e2⟩;have vS:=GJ ht u [.int .i64 l,.agg [.int .i64 code,.raw (dX (LU g.d.k (some ⟨ids.getD ip 0,0,none⟩) n' (n'+d) f))]] (LU g.d.k (some ⟨ids.getD ip 0,0,none⟩) n' (n'+d) f) (ot x y g.d g.dx g.sx) F1
         (λvv s' F1' fn ex=>cF=F1'.vs/\cF=F1'.vr/\∀F':cw fr (bV g.d.k s'),cF=F'.vs->cF=F'.vr->K (rv bl.length vv) (fS bl ic x.it g.d.k s'++ex) (.dC u::.core (cx g.d.k s' F') (fn++fB)::rest))
         _ _ _ ms w0 w rfl e8 ⟨⟨hC',by rw[f1];exact v1,by rw[f2];exact v2,rfl,p1,p2⟩,λs2 e2 tr fn F0 w1 w2 hf=>⟨w1,w2,λF' z1 z2=>hT s2 e2 tr fn F' z1 z2 hf⟩⟩ S1
        have bd:aq ids [.ptr ic 0,.int .i64 l,.agg [.int .i64 code,.sl ip 0 n' (n'+d)]]=aq (ca (ids.getD ic 0) (ids.getD x.it 0)) (.ptr 2 0::[.int .i64 l,.agg [.int .i64 code,.raw (dX (LU g.d.k (some ⟨ids.getD ip 0,0,none⟩) n' (n'+d) f))]]):=rfl;rw[bd];refine vS.mono ?_;rintro v w' ⟨vv,s',F1',fn,ex,xs,pI,hvv,WJ,⟨w1,w2,hK⟩,S2⟩;obtain⟨F',g1,g2,g3⟩:=ac8 hnp F1';refine⟨rv bl.length vv,xs,fS bl ic x.it g.d.k s'++ex,.dC u::.core (cx g.d.k s' F') (fn++fB)::rest,?_,?_,?_,hK F' (by rw[g1];exact w1) (by rw[g2];exact w2)⟩
        ·rw[<-hl,sU];exact hvv.symm
        ·simp[fS,hl,pI]
        ·have H':=DF H q2 q3 n4 s';have jG:=hp (fS bl ic x.it g.d.k s') (by simp[fS]);have hpp:(fS bl ic x.it g.d.k s').getD ip g_=dD n' d f:=by
          have:(fS bl ic x.it g.d.k s')[ip]?=some (dD n' d f):=by
           unfold fS;rw[eN n6,eN n5];exact hbp
          exact cL this
         rw[emp,ry H' hg,hpp]at jG;have CZ:(r.map λj=>aL ids (ids.getD j 0) ((fS bl ic x.it g.d.k s').getD j g_))=r.map λj=>aL ids (ids.getD j 0) (bl.getD j g_):=by
          unfold fS;refine wJ ?_;intro j hj;have:=hr j hj;simp only[List.mem_cons,List.not_mem_nil,or_false,not_or]at this;omega
         rw[CZ]at jG;have gH:ids.length=(fS bl ic x.it g.d.k s').length:=by simp[fS,hl]
         have hw2:dE ids.length (fS bl ic x.it g.d.k s')=true:=by
          unfold fS;rw[<-hl]at qw l3;refine rz ?_ _ _ (rz ?_ _ _ qw)
          ·exact gx (Nat.zero_le _) _ (ir s')
          ·simp only[ee,yk,CX,cG,fu,Bool.and_eq_true,Nat.blt_eq,Bool.true_and,Bool.and_true];exact l3
         rw[aQ _ _ _ _ gH,aR _ _ hw2,fE (ids':=xs) xs ex WJ];rw[g3,<-ahe]at S2;have S3:St ms w0 (lits (ca (ids.getD ic 0) (ids.getD x.it 0)) (ca (ids.getD ic 0) (ids.getD x.it 0)) (gi g.d.k s')++(lits xs xs ex++((F'.B++[aL ids (ids.getD ip 0) (dD n' d f)])++(fn++(dV u++((r.map λj=>aL ids (ids.getD j 0) (bl.getD j g_))++(fB++ag rest R))))))) w':=S2;refine S3.perm ?_;show List.Perm _ ((lits ids ids (fS bl ic x.it g.d.k s')++lits xs xs ex)++(dV u++((F'.B++(fn++fB))++ag rest R)));refine List.Perm.trans ?_ ((jG.symm.append_right _).append_right _);exact cH λf=>by simp only[List.countP_append];omega
      ·exact hc.elim
     ·exact hc.elim
    ·exact hc.elim
   ·exact hc.elim
  ·exact hc.elim
 ·exact hc.elim
end Go.Proofs.YtlkpikfddnjilaaGreatDoor
