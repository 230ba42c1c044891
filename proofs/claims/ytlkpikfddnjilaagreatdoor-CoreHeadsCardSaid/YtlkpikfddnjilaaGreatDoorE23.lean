/- Part 23 of the proof. -/
import Derived.Test.YtlkpikfddnjilaaGreatDoorE22
set_option linter.all false
set_option maxRecDepth 100000
set_option maxHeartbeats 4000000
open Go.Proofs.Tryz
namespace Sd
variable{C:Crypt} {s:Scene}
def Bd (n:Int):Prop:=-9223372036854775808<=n/\n<=9223372036854775807
def RM (t:Timer):Prop:=Bd t.n/\Bd t.most
structure rh (t:Tab):Prop where
 hi:∀j,(t.aE (j+3)).on=false
 st:RM t.aF.2
 ss:∀j,RM (t.aE j).aP
structure gW (t:Tok):Prop where
 oa:RM t.oa
 la:RM t.la
def DL (x:X4):Prop:=Bd x.a/\Bd x.b/\Bd x.c/\Bd x.d
structure PtX (p:Point):Prop where
 cg:DL p.cg
 now:DL p.now
structure Ext (c:Core):Prop where
 tab:rh c.tab
 t:gW c.t
 pt:PtX c.pt
 d:∀i,(c.doors i).many<=4294967295
 be:Bd c.beyond
theorem RN:Bd 0:=⟨by decide,by decide⟩
theorem K4:RM Timer.zero:=⟨RN,RN⟩
theorem x40:DL X4.zero:=⟨RN,RN,RN,RN⟩
theorem PV {n m:Int} (h:Bd n) (k:Bd m):Bd (sat n m):=by
 unfold Bd sat at*;split<;>omega
theorem xV {n a b:Int} (h:a<=n/\n<=b) (ha:-9223372036854775808<=a) (hb:b<=9223372036854775807):Bd n:=⟨by omega,by omega⟩
theorem m_ {m:Int} (h:Bd m):RM (Timer.start m):=⟨RN,by unfold Timer.start Bd at*;dsimp only;omega⟩
theorem ri {t:Timer} (h:RM t):RM t.step:=⟨PV h.1 h.2,h.2⟩
theorem Ext.eq {c c':Core} (h:Ext c) (h1:c'.tab=c.tab) (h2:c'.t=c.t) (h3:c'.pt=c.pt) (h4:c'.doors=c.doors) (h5:c'.beyond=c.beyond):Ext c':=
 ⟨h1▸h.tab,h2▸h.t,h3▸h.pt,h4▸h.d,h5▸h.be⟩
theorem Ext.new {p:Pol}:Ext (Core.new p):=⟨⟨λ_=>rfl,K4,λ_=>K4⟩,⟨K4,K4⟩,⟨x40,x40⟩,λ_=>show(0:Int)<=4294967295 by decide,RN⟩
theorem t_ {t:Tok} {a b:Int}:gW (t.pass a b):=⟨K4,K4⟩
theorem na {t:Tok} (h:gW t) {a:Int}:gW (t.bz a).1:=by
 unfold Tok.bz;split
 ·exact h
 split
 ·exact h
 split
 ·exact h
 exact t_
theorem PW {t:Tok} (h:gW t):gW t.bG:=⟨K4,h.la⟩
theorem VH {p:Pol} (hp:cP p) {t:Tok} (h:gW t) {a b:Int} {th:Bool}:gW (t.make p a b th).1:=by
 unfold Tok.make;split
 ·exact h
 split
 ·exact h
 split
 ·exact h
 split
 ·exact h
 split
 ·exact h
 exact⟨m_ (xV hp.offer (by decide) (by decide)),h.la⟩
theorem Kn {t:Tok} (h:gW t) {a b:Int}:gW (t.accept a b).1:=by
 unfold Tok.accept;split
 ·exact h
 split
 ·exact h
 exact na h
theorem VI {t:Tok} (h:gW t) {a:Int}:gW (t.ft a).1:=by
 unfold Tok.ft;split
 ·exact h
 exact PW h
theorem HW {t:Tok} (h:gW t) {a:Int}:gW (t.drop a).1:=by
 unfold Tok.drop;split
 ·exact h
 exact PW h
theorem HX {t:Tok} (h:gW t):gW t.tick.1:=by
 unfold Tok.tick;split
 ·exact h
 split
 ·exact⟨K4,h.la⟩
 exact⟨ri h.oa,h.la⟩
theorem PX {p:Pol} {t:Tok} {m:Int} {q:List Ask} {f:Int} {now:Bool} (h:gW t):gW (cF p t m q f now).1:=by
 unfold cF;split
 ·exact h
 split
 ·exact h
 split
 ·exact h
 split
 ·split
  ·exact h
  ·exact na h
 split
 ·exact h
 exact h
theorem C6 {t:Tok} (h:gW t) {q:List Ask}:gW (bg t q).1:=by
 unfold bg;split
 ·exact h
 split
 ·exact h
 exact na h
theorem vZ {t:Tok} (h:gW t) {q:List Ask} {f:Int}:gW (aw t q f).1:=by
 unfold aw;split
 ·exact h
 split
 ·exact h
 exact C6 h
theorem Ay {p:Pol} (hp:cP p) {t:Tok} (h:gW t) {q:List Ask} {th:Bool}:gW (bM p t q th).1:=by
 unfold bM;split
 ·exact⟨h.oa,K4⟩
 have Lj:RM (if t.la.most=0 then Timer.start p.dg else t.la).step:=by
  split
  ·exact ri (m_ (xV hp.dg (by decide) (by decide)))
  ·exact ri h.la
 dsimp only;generalize (if t.la.most=0 then Timer.start p.dg else t.la).step=la at*;have h1:gW {t with la:=la}:=⟨h.oa,Lj⟩;split
 ·exact h1
 split
 ·exact t_
 split
 ·exact na h1
 exact C6 h1
theorem Ext.record {k a n e w:Int} (h:Ext s.c):Ext (s.record C k a n e w).c:=⟨h.tab,h.t,h.pt,h.d,h.be⟩
theorem Ext.hear {l:Int} {r:Reply} (h:Ext s.c):Ext (s.hear l r).c:=by rw[Scene.hear_c];exact h
theorem Ext.gone {l w e:Int} (h:Ext s.c):Ext (s.gone l w e).c:=h.hear
theorem Ext.tell {l:Int} {r:Reply} (h:Ext s.c):Ext (s.tell l r).c:=h
theorem Ext.done {l n:Int} (h:Ext s.c):Ext (s.done l n).c:=h
theorem Ext.refuse {l n e:Int} (h:Ext s.c):Ext (s.refuse C l n e).c:=Ext.record (s:=s.tell l _) h
theorem Ext.dp {l e:Int} (h:Ext s.c):Ext (s.dp C l e).c:=h.record
theorem Ext.goes {t:Tok} {how n:Int} (h:Ext s.c) (ht:gW t):Ext (s.goes C t how n).c:=by
 obtain⟨x,e⟩:=Scene.zz C s t how n;rw[e];exact⟨h.tab,ht,h.pt,h.d,h.be⟩
theorem Ext.leave {x:Int} (h:Ext s.c):Ext (s.leave C x).c:=by
 obtain⟨hd,e⟩:=zC C s x;rw[e];exact⟨h.tab,HW h.t,h.pt,h.d,h.be⟩
theorem Ext.bb {t:Tok} (h:Ext s.c) (ht:gW t):Ext (s.bb t).c:=⟨h.tab,ht,h.pt,h.d,h.be⟩
theorem Ext.C7 {q:List Ask} (h:Ext s.c):Ext ({s with c:={s.c with q:=q}}:Scene).c:=⟨h.tab,h.t,h.pt,h.d,h.be⟩
theorem Ext.dF {m:Int} {y:Label} (h:Ext s.c):Ext (s.dF m y).c:=⟨h.tab,h.t,⟨x40,h.pt.now⟩,h.d,h.be⟩
theorem Az {t:Tab} (h:rh t) {i:Nat} (hi:i<3) {x:bu} (hx:RM x.aP):rh (t.fe i x) where
 hi:=by
  intro j;unfold Tab.fe;dsimp only;rw[if_neg (by omega)];exact h.hi j
 st:=h.st
 ss:=by
  intro j;unfold Tab.fe;dsimp only;split
  ·exact hx
  ·exact h.ss j
theorem VJ {t:Tab} (h:rh t) {l:Int} (hl:1<=l/\l<=3):rh (t.end_ l):=by
 unfold Tab.end_;split
 ·exact Az h (by omega) K4
 ·exact h
theorem Ko {p:Pol} (hp:cP p) {t:Tab} (h:rh t) {l r:Int} {key:Byt}:rh (Tab.bw p t l r key).1:=by
 unfold Tab.bw;split
 ·exact h
 split
 ·exact h
 exact Az h (by omega) (m_ (xV hp.bU (by decide) (by decide)))
theorem PY {p:Pol} (hp:cP p) {t:Tab} (h:rh t) {l:Int} (hl:1<=l/\l<=3) {n:Nat} {f:Byt}:rh (Tab.take C p t l n f).1:=by
 unfold Tab.take;split
 ·exact h
 split
 ·exact h
 split
 ·exact h
 split
 ·exact h
 split
 ·exact h
 exact Az h (by omega) (m_ (xV hp.bU (by decide) (by decide)))
theorem FW {p:Pol} (hp:cP p) {t:Tab} (h:rh t):rh (t.dD p):=⟨h.hi,m_ (xV hp.bU (by decide) (by decide)),h.ss⟩
theorem PZ {t:Tab} (h:rh t):rh t.tick where
 hi:=by
  intro j;simp only[Tab.tick,h.hi j];simp[h.hi j]
 st:=by
  unfold Tab.tick;dsimp only;split
  ·split
   ·exact K4
   ·exact ri h.st
  ·exact h.st
 ss:=by
  intro j;unfold Tab.tick;dsimp only;split
  ·split
   ·exact K4
   ·exact ri (h.ss j)
  ·exact h.ss j
theorem rj {n a b:Int} (ha:Bd a) (hb:Bd b) (h:Bd n):Bd (n8 n a b):=by
 unfold n8;split
 ·exact ha
 split
 ·exact hb
 exact h
theorem P1 {p:Pol} (hp:cP p) {pt:Point} (h:PtX pt) {c:Int} {x:X4} (hx:DL x) {y:Label}:PtX (pt.set p c x y) where
 cg:=by
  unfold Point.set;dsimp only;split
  ·exact x40
  ·have hm:=hp.most c.toNat (by omega);have h1:Bd (-(p.most c.toNat)):=⟨by omega,by omega⟩;have h2:Bd (p.most c.toNat):=⟨by omega,by omega⟩;exact⟨rj h1 h2 hx.1,rj h1 h2 hx.2.1,rj h1 h2 hx.2.2.1,rj h1 h2 hx.2.2.2⟩
 now:=h.now
theorem nL {a b r:Int} (ha:Bd a) (hb:Bd b):Bd (iR a b r):=by
 unfold iR Bd at*;split
 ·exact ha
 split
 ·split<;>omega
 ·split<;>omega
theorem VL {p:Pol} {pt:Point} (h:PtX pt):PtX (pt.step p) where
 cg:=h.cg
 now:=⟨nL h.now.1 h.cg.1,nL h.now.2.1 h.cg.2.1,nL h.now.2.2.1 h.cg.2.2.1,nL h.now.2.2.2 h.cg.2.2.2⟩
theorem VM {m:dw} {l:Int} (hl:1<=l/\l<=3) (hp:cP s.c.p) (hx:DL m.x) (h:Ext s.c):Ext (s.wO C l m).c:=by
 unfold Scene.wO;split
 ·exact h.done
 split
 ·unfold Scene.WJ;refine Ext.done (Ext.record (Ext.leave ?_));exact⟨VJ h.tab hl,h.t,h.pt,h.d,h.be⟩
 split
 ·unfold Scene.ask;dsimp only;split
  ·exact h.refuse
  refine Ext.done ?_;split
  ·exact Ext.goes (h.C7) (PX h.t)
  ·exact Ext.record (Ext.bb h.C7 (PX h.t))
 split
 ·unfold Scene.offer;dsimp only;split
  ·exact h.refuse
  exact Ext.done (Ext.record (Ext.hear (Ext.bb h (VH hp h.t))))
 split
 ·unfold Scene.accept;dsimp only;split
  ·exact h.refuse
  exact Ext.done (Ext.goes h (Kn h.t))
 split
 ·unfold Scene.ft;dsimp only;split
  ·exact h.refuse
  exact Ext.done (Ext.record (Ext.gone (Ext.bb h (VI h.t))))
 split
 ·unfold Scene.release;dsimp only;split
  ·exact h.refuse
  exact Ext.done (Ext.goes h.C7 (vZ h.t))
 split
 ·unfold Scene.command;dsimp only;split
  ·exact h.refuse
  refine Ext.done (Ext.record ?_);split
  ·exact⟨h.tab,h.t,h.pt,h.d,h.be⟩
  ·exact⟨h.tab,h.t,P1 hp h.pt hx,h.d,h.be⟩
 ·exact h
theorem P2 {l code:Int} {n:Nat} {f:Byt} (hx:∀n f m,C.take n f=some m->DL m.x) (hl:1<=l/\l<=3) (hp:cP s.c.p) (h:Ext s.c):Ext (s.item C l code n f).c:=by
 unfold Scene.item;split
 ·exact h.dp
 split
 ·unfold Scene.kW;split
  ·exact h.dp
  split
  ·exact h.refuse
  dsimp only;split
  ·exact h.refuse
  refine Ext.record (Ext.tell ?_);refine⟨h.tab,h.t,h.pt,?_,h.be⟩;intro i;dsimp only;split
  ·dsimp only;omega
  ·exact h.d i
 split
 ·unfold Scene.prove;split
  ·exact h.dp
  split
  ·exact h.dp
  dsimp only;split
  ·exact h.refuse
  have h1:∀{b:Bool} {x:Byt},Ext ({s.c with doors:=λj=>if j=l.toNat-1 then⟨(s.c.doors (l.toNat-1)).many,b,x⟩else s.c.doors j}:Core):=by
   intro b x;refine⟨h.tab,h.t,h.pt,?_,h.be⟩;intro i;dsimp only;split
   ·exact h.d _
   ·exact h.d i
  split
  ·exact Ext.dp (s:=({s with c:=_}:Scene)) h1
  split
  ·exact Ext.refuse (s:=({s with c:=_}:Scene)) h1
  split
  ·exact Ext.refuse (s:=({s with c:=_}:Scene)) h1
  refine Ext.record (Ext.tell ?_);exact⟨Ko hp h.tab,h.t,h.pt,(@h1 false λ_=>0).d,h.be⟩
 split
 ·exact h.dp
 ·rename_i tab m heq;have h1:rh tab:=by have:=PY (C:=C) hp h.tab hl (n:=n) (f:=f);rw[heq]at this;exact this
  have hm:DL m.x:=by
   unfold Tab.take at heq;split at heq
   ·cases heq
   split at heq
   ·cases heq
   split at heq
   ·cases heq
   ·rename_i m' LU;split at heq
    ·cases heq
    split at heq
    ·cases heq
    cases heq;exact hx _ _ _ LU
  exact VM hl hp hm ⟨h1,h.t,h.pt,h.d,h.be⟩
theorem FX {x:dM} (hx:DL x.x) (hp:cP s.c.p) (h:Ext s.c):Ext (s.dD C x).c:=by
 have hs:Bd (n9 s.c.p s.c.beyond x).1:=by
  unfold n9;split
  ·exact RN
  ·exact PV (by have:=h.be;unfold Bd at*;omega) (xV hp.n7 (by decide) (by decide))
 unfold Scene.dD;split
 ·exact⟨h.tab,h.t,h.pt,h.d,RN⟩
 dsimp only;have h1:Ext ({s.c with samples:=sat s.c.samples 4294967295,tab:=s.c.tab.dD s.c.p,beyond:=(n9 s.c.p s.c.beyond x).1}:Core):=⟨FW hp h.tab,h.t,h.pt,h.d,hs⟩;split
 ·split
  ·exact Ext.record (s:=({s with c:=_}:Scene)) h1
  ·exact Ext.goes ⟨h1.tab,h1.t,h1.pt,h1.d,h1.be⟩ (vZ h.t)
 split
 ·split
  ·exact Ext.record (s:=({s with c:=_}:Scene)) h1
  ·exact Ext.record (s:=({s with c:=_}:Scene)) ⟨h1.tab,h1.t,P1 hp h.pt hx,h1.d,h1.be⟩
 split
 ·split
  ·exact Ext.record (s:=({s with c:=_}:Scene)) h1
  ·exact Ext.goes (s:=({s with c:=_}:Scene)) h1 (na h.t)
 ·exact h1
theorem AA (q:List Ask):∀s:Scene,Ext s.c->Ext (q.foldl dC s).c:=by
 induction q with
 |nil=>intro s h;exact h
 |cons a q ih=>intro s h;exact ih _ (by rw[l6];exact⟨h.tab,h.t,h.pt,h.d,h.be⟩)
theorem FY {bad:Bool} (h:Ext s.c):Ext (s.h_ C bad).c:=by
 cases bad with
 |false=>exact⟨h.tab,⟨h.t.oa,h.t.la⟩,h.pt,h.d,h.be⟩
 |true=>
  rw[xU true rfl];refine Ext.dF (AA _ _ ?_);have h0:Ext (s.bb {s.c.t with bad:=true}).c:=Ext.bb h ⟨h.t.oa,h.t.la⟩;split
  ·exact Ext.goes h0 t_
  ·exact Ext.bb h0 t_
theorem abp (xs:List Int):∀t:Tok,gW t->gW (lz t xs):=by
 induction xs with
 |nil=>intro t h;exact h
 |cons x xs ih=>
  intro t h;unfold lz at*;rw[List.foldl_cons];refine ih _ ?_;split
  ·exact HW h
  ·exact h
theorem VN (xs:List Int):∀s:Scene,Ext s.c->Ext (xs.foldl (gV C) s).c:=by
 induction xs with
 |nil=>intro s h;exact h
 |cons x xs ih=>
  intro s h;refine ih _ ?_;obtain⟨hd,e⟩:=C2 C s x;rw[e];exact⟨h.tab,abp _ _ h.t,h.pt,h.d,h.be⟩
theorem Kq (q:List Ask):∀s:Scene,Ext s.c->Ext (q.foldl (km C) s).c:=by
 induction q with
 |nil=>intro s h;exact h
 |cons a q ih=>intro s h;exact ih _ (Ext.record (Ext.gone h))
theorem P3 (hp:cP s.c.p) (h:Ext s.c):Ext (s.dg C).c:=by
 unfold Scene.dg;dsimp only;split
 ·exact Ext.bb h (Ay hp h.t)
 split
 ·exact Ext.dF (Ext.goes h.C7 (Ay hp h.t))
 ·exact Ext.dF (Ext.goes h.C7 (Ay hp h.t))
theorem P4 (hi:Inv s.c) (h:Ext s.c):Ext (s.tick C).c:=by
 rw[tZ];have h1:Ext (lA C s).c:=VN _ _ ⟨PZ h.tab,h.t,h.pt,h.d,h.be⟩;have h2:Ext (lB C (lA C s)).c:=by
  unfold lB;dsimp only;split
  ·exact Ext.record (Ext.gone (Ext.bb h1 (HX h1.t)))
  ·exact Ext.bb h1 (HX h1.t)
 have h3:Ext (rf C (lB C (lA C s))).c:=Kq _ _ ⟨h2.tab,h2.t,h2.pt,h2.d,h2.be⟩;have hp:cP (rf C (lB C (lA C s))).c.p:=by rw[(PT (b:=True) hi).2.p];exact hi.p
 have h4:=P3 (C:=C) hp h3;exact⟨h4.tab,h4.t,VL h4.pt,h4.d,h4.be⟩
end Sd
namespace Sx
open Go Go.RowKit Go.BigFrame
theorem St.dup {ms:List Nat} {w0 w:World} {bs:List aC} {b:aC} (S:St ms w0 bs w) (hb:b∈bs) (hw:b.wr=false):St ms w0 (b::bs) w:=by
 refine St.mk' S.ch ?_ ?_ ?_
 ·intro x hx;rcases List.mem_cons.1 hx with rfl|hx
  ·exact S.at' hb
  ·exact S.at' hx
 ·intro x hx h;rcases List.mem_cons.1 hx with rfl|hx
  ·rw[hw]at h;cases h
  ·exact S.rD hx h
 ·refine List.pairwise_cons.2 ⟨?_,S.pw⟩;intro y hy;obtain⟨i,hi⟩:=List.getElem?_of_mem hb;obtain⟨j,hj⟩:=List.getElem?_of_mem hy;intro h;have hyw:y.wr=true:=by
   rcases h with h|h
   ·rw[hw]at h;cases h
   ·exact h
  have fc:j≠i:=λe=>by
   rw[e,hi]at hj;have:=Option.some.inj hj;rw[this]at hw;rw[hw]at hyw;cases hyw
  exact(S.apart j i y b hj hi fc hyw).symm
end Sx
namespace Go.Proofs.YtlkpikfddnjilaaGreatDoor
open Go Go.RowKit Go.BigFrame Sx Vx
variable{fr:Sd.Reply->Nat×Sd.Byt}
def fu (u:World):List aC:=u.heap.toList.zipIdx.map λp=>⟨p.2,false,p.1⟩
theorem P5 {u:World} {i:Nat} {o:Obj} (h:u.heap[i]?=some o):(⟨i,false,o⟩:aC)∈fu u:=by
 unfold fu;rw[List.mem_map];exact⟨(o,i),by rw[List.mk_mem_zipIdx_iff_getElem?];simpa using h,rfl⟩
inductive LG (fr:Sd.Reply->Nat×Sd.Byt) where
 |gh (u:World)
 |core (g:Gh fr) (fB:List aC)
 |row (r:aO)
instance:Bl (LG fr):=⟨λg=>match g with|.gh u=>fu u|.core g fB=>g.F.B++fB|.row r=>r.bl⟩
mutual
def rk (n:Nat):V->V
 |.ptr i o=>.ptr (i+n) o
 |.sl i o m c=>.sl (i+n) o m c
 |.je i o m c x=>.je (i+n) o m c x
 |.pe i o j z k=>.pe (i+n) o j z k
 |.fn f a b=>.fn f (HY n a) (HY n b)
 |.A0 t v=>.A0 t (rk n v)
 |.agg l=>.agg (HY n l)
 |.aI l=>.aI (HY n l)
 |v=>v
def HY (n:Nat):List V->List V
 |[]=>[]
 |v::l=>rk n v::HY n l
end
theorem ua {ids xs:List Nat} (i:Nat):(ids++xs).getD (i+ids.length) 0=xs.getD i 0:=by
 simp[List.getD,List.getElem?_append_right (show ids.length<=i+ids.length by omega)]
mutual
theorem su {ids xs:List Nat}:∀v:V,den (ids++xs) (rk ids.length v)=den xs v
 |.ptr i _=>by simp only[rk,den,ua]
 |.sl i _ _ _=>by simp only[rk,den,ua]
 |.je i _ _ _ _=>by simp only[rk,den,ua]
 |.pe i _ _ _ _=>by simp only[rk,den,ua]
 |.fn _ a b=>by simp only[rk,den,ub a,ub b]
 |.A0 _ v=>by simp only[rk,den,su v]
 |.agg l=>by simp only[rk,den,AB l]
 |.aI l=>by simp only[rk,den,ub l]
 |.int _ _=>by simp[rk,den]
 |.bool _=>by simp[rk,den]
 |.ew _ _ _=>by simp[rk,den]
 |.arr _ _ _=>by simp[rk,den]
 |.jS _ _ _ _=>by simp[rk,den]
 |.rest _=>by simp[rk,den]
 |.fY _ _ _=>by simp[rk,den]
 |.raw _=>by simp[rk,den]
theorem ub {ids xs:List Nat}:∀l:List V,az (ids++xs) (HY ids.length l)=az xs l
 |[]=>by simp[HY,az]
 |v::l=>by simp only[HY,az,su v,ub l]
theorem AB {ids xs:List Nat}:∀l:List V,ai (ids++xs) (HY ids.length l)=ai xs l
 |[]=>by simp[HY,ai]
 |v::l=>by
  simp only[HY,ai,AB l];congr 1;have h:=su (ids:=ids) (xs:=xs) v;cases v<;>simp only[rk,cl]at h⊢<;>first|rfl|rw[h]
end
def XI (n:Nat):List VB->List VB
 |[]=>[]
 |b::l=>⟨b.wr,b.ty,HY n b.c⟩::XI n l
theorem HZ (n:Nat):∀l:List VB,(XI n l).length=l.length
 |[]=>rfl
 |_::l=>by simp[XI,HZ n l]
theorem H0 {ids xs:List Nat}:∀(is:List Nat) (bl:List VB),lits (ids++xs) is (XI ids.length bl)=lits xs is bl
 |[],_=>by simp[lits]
 |_::_,[]=>by simp[lits,XI]
 |i::is,b::bl=>by
  simp only[XI,lits,H0 is bl];unfold aW;simp only[AB]
abbrev LKb (fr:Sd.Reply->Nat×Sd.Byt) (k:LK):=V->(s':Sd.Scene)->cz fr (b9 k s')->List aC->List VB->Prop
abbrev LM (fr:Sd.Reply->Nat×Sd.Byt):=List V->(k:LK)->(s:Sd.Scene)->cz fr (b9 k s)->LKb fr k->Prop
def gd (bl:List VB) (ic it:Nat) (k:LK) (s:Sd.Scene):List VB:=(bl.set ic (ei k it s)).set it (gD s)
def K5 (M:World->LM fr):jq (LG fr):=λargs bl ch K=>match args,ch with
 |.ptr ic 0::ar,.gh u::.core g fB::rest=>(match bl[ic]?with
  |some ⟨true,⟨97,(0,0)⟩,cc⟩=>(match xL cc with
   |some x=>(match bl[x.it]?with
    |some ⟨true,⟨143,(0,0)⟩,tc⟩=>(match vj tc with
     |some y=>cond (cK 0 ar&&(ez bl.length bl&&(Nat.blt 1 ic&&(Nat.blt 1 x.it&&!(Nat.beq ic x.it)))))
      ((bl[0]?=some (aG g.d.k)/\bl[1]?=some (iI g.d.k)/\x=Cq g.d.k x.it (oe x y g.d g.dx g.sx)/\y.b=x.p.bU/\y.m=x.p.bx/\x.p.queue=g.d.k.most)/\
        M u ar g.d.k (oe x y g.d g.dx g.sx) g.F λvv s' F' fn ex=>K (rk bl.length vv) (gd bl ic x.it g.d.k s'++ex) (.gh u::.core (cB g.d.k s' F') (fn++fB)::rest)) False
     |none=>False)
    |_=>False)
   |none=>False)
  |_=>False)
 |_,_=>False
abbrev fH (a b:Nat):List Nat:=[0,2,a,b]
def ov (f:Nat) (M:World->LM fr):Prop:=∀(u:World) (ar:List V) (k:LK) (s:Sd.Scene) (F:cz fr (b9 k s)) (Kb:LKb fr k) (a b:Nat) (R:List aC) (ms:List Nat) (w0 w:World),cK 0 ar=true->s.c.p.queue=k.most->M u ar k s F Kb->
 St ms w0 (lits (fH a b) (fH a b) (gz k s)++(F.B++(fu u++R))) w->
 au prog f (az (fH a b) (.ptr 2 0::ar)).toArray w λv w'=>∃(vv:V) (s':Sd.Scene) (F':cz fr (b9 k s')) (fn:List aC) (ex:List VB) (xs:List Nat),xs.length=ex.length/\den xs vv=v/\ez 0 ex=true/\Kb vv s' F' fn ex/\
  St ms w0 (lits (fH a b) (fH a b) (gz k s')++(lits xs xs ex++(F'.B++(fn++(fu u++R))))) w'
theorem xW {ids:List Nat} {it a b:Nat} (n:Nat) {k:LK} {s:Sd.Scene} (h:ids.getD it 0=b):aW ids n (ei k it s)=aW (fH a b) n (ei k 3 s):=by
 have e:(fH a b).getD 3 0=b:=rfl;simp only[aW,ei,xK,Cq,ai,cl,den,h,e]
structure P6 (bl:List VB) (ic it:Nat) (k:LK) (s:Sd.Scene):Prop where
 h0:bl[0]?=some (aG k)
 h1:bl[1]?=some (iI k)
 hc:bl[ic]?=some (ei k it s)
 ht:bl[it]?=some (gD s)
theorem rn {ids:List Nat} {bl:List VB} {ic it:Nat} {k:LK} {s:Sd.Scene} (H:P6 bl ic it k s) (hg:Gl gS ids):
 ([0,1,ic,it].map λj=>aW ids (ids.getD j 0) (bl.getD j ir))=lits (fH (ids.getD ic 0) (ids.getD it 0)) (fH (ids.getD ic 0) (ids.getD it 0)) (gz k s):=by
 have g0:=(hg 0 0 rfl).2;have g1:=(hg 2 1 rfl).2;simp only[List.map_cons,List.map_nil,cR H.h0,cR H.h1,cR H.hc,cR H.ht,g0,g1,gz,lits];rw[cq (ids':=fH (ids.getD ic 0) (ids.getD it 0)) (gQ k),cq (ids':=fH (ids.getD ic 0) (ids.getD it 0)) (s8 k),cq (ids':=fH (ids.getD ic 0) (ids.getD it 0)) (iJ s),
  xW (a:=ids.getD ic 0) _ rfl]
theorem C8 {bl:List VB} {ic it:Nat} {k:LK} {s:Sd.Scene} (H:P6 bl ic it k s) (h2:1<ic) (h3:1<it) (n3:ic≠it) (s':Sd.Scene):P6 (gd bl ic it k s') ic it k s':=by
 have l2:=ct H.hc;have l3:=ct H.ht;unfold gd;refine⟨?_,?_,?_,?_⟩
 ·rw[eY (by omega),eY (by omega)];exact H.h0
 ·rw[eY (by omega),eY (by omega)];exact H.h1
 ·rw[eY (by omega),mY l2]
 ·rw[mY (by simpa using l3)]
theorem afy {bl:List VB} {ids r:List Nat} {a b:Nat} {x y:VB} (hr:∀j∈r,j≠a/\j≠b):
 (r.map λj=>aW ids (ids.getD j 0) (((bl.set a x).set b y).getD j ir))=r.map λj=>aW ids (ids.getD j 0) (bl.getD j ir):=by
 apply List.map_congr_left;intro j hj;obtain⟨h1,h2⟩:=hr j hj;simp only[List.getD,List.getElem?_set];rw[if_neg (Ne.symm h2),if_neg (Ne.symm h1)]
theorem rp {n:Nat} {b:VB} (hb:cK n b.c=true):∀(bl:List VB) (i:Nat),ez n bl=true->ez n (bl.set i b)=true
 |[],_,_=>by simp[ez]
 |c::l,0,h=>by simp only[ez,Bool.and_eq_true,List.set_cons_zero]at h⊢;exact⟨hb,h.2⟩
 |c::l,i+1,h=>by simp only[ez,Bool.and_eq_true,List.set_cons_succ]at h⊢;exact⟨h.1,rp hb l i h.2⟩
theorem fJ {ids ids':List Nat}:∀(xs:List Nat) (ex:List VB),ez 0 ex=true->lits ids xs ex=lits ids' xs ex
 |[],_,_=>by simp[lits]
 |_::_,[],_=>by simp[lits]
 |i::is,b::bl,h=>by
  simp only[ez,Bool.and_eq_true]at h;simp only[lits];rw[cq (ids':=ids') h.1,fJ is bl h.2]
theorem C9 {f:Nat} {M:World->LM fr} (h:ov f M):Sound prog gS f (K5 M):=by
 intro args ids bl ch R ms w0 w K hg hl S hc;unfold K5 at hc;split at hc
 ·rename_i ic ar u g fB rest;split at hc
  ·rename_i cc Rr;split at hc
   ·rename_i x hx;split at hc
    ·rename_i tc Xn;split at hc
     ·rename_i y hy;cases hq:cK 0 ar&&(ez bl.length bl&&(Nat.blt 1 ic&&(Nat.blt 1 x.it&&!(Nat.beq ic x.it))))with
      |false=>rw[hq]at hc;exact hc.elim
      |true=>
       rw[hq]at hc;simp only[Bool.and_eq_true,Bool.not_eq_true',Nat.blt_eq]at hq;obtain⟨q0,qw,q2,q3,q6⟩:=hq;have n3:ic≠x.it:=λe=>by rw[e,Nat.beq_refl]at q6;cases q6
       obtain⟨⟨e3,e4,e5,e6,e7,e8⟩,hM⟩:=hc;obtain rfl:=qI hx;obtain rfl:=kl hy;have H:P6 bl ic x.it g.d.k (oe x y g.d g.dx g.sx):=by
        refine⟨e3,e4,?_,?_⟩
        ·rw[Rr];congr 1;unfold ei;rw[<-e5]
        ·rw[Xn];congr 1;unfold gD;have:y=Uj (oe x y g.d g.dx g.sx):=by
          obtain⟨y1,y2,y3,y4,y5,y6,y7,y8⟩:=y;simp only at e6 e7;subst e6 e7;rfl
         rw[<-this]
       have l2:=ct H.hc;have l3:=ct H.ht;obtain⟨r,hr,hp⟩:=vm (bl:=bl) (ids:=ids) hl (is:=[0,1,ic,x.it]) (by simp;omega) (by
        intro i hi;simp only[List.mem_cons,List.not_mem_nil,or_false]at hi;rcases hi with rfl|rfl|rfl|rfl<;>omega)
       have eo:=hp bl rfl;rw[rn H hg]at eo;have S1:=S.perm (bs':=lits (fH (ids.getD ic 0) (ids.getD x.it 0)) (fH (ids.getD ic 0) (ids.getD x.it 0)) (gz g.d.k (oe x y g.d g.dx g.sx))++(g.F.B++(fu u++((r.map λj=>aW ids (ids.getD j 0) (bl.getD j ir))++(fB++ak rest R))))) (by
        refine(eo.append_right _).trans ?_;rw[List.append_assoc];refine List.Perm.append_left _ ?_;show((r.map λj=>aW ids (ids.getD j 0) (bl.getD j ir))++(fu u++((g.F.B++fB)++ak rest R))).Perm _;exact di λf=>by simp only[List.countP_append];omega)
       have vn:=h u ar g.d.k (oe x y g.d g.dx g.sx) g.F _ _ _ _ ms w0 w q0 e8 hM S1;have ca:az ids (.ptr ic 0::ar)=az (fH (ids.getD ic 0) (ids.getD x.it 0)) (.ptr 2 0::ar):=by
        have a1:az ids ar=az [] ar:=by have:=dO (ids:=[]) (more:=ids) ar q0;simpa using this
        have a2:az (fH (ids.getD ic 0) (ids.getD x.it 0)) ar=az [] ar:=by have:=dO (ids:=[]) (more:=fH (ids.getD ic 0) (ids.getD x.it 0)) ar q0;simpa using this
        simp only[az,den,a1,a2];rfl
       rw[ca];refine vn.mono ?_;rintro v w' ⟨vv,s',F',fn,ex,xs,tB,hvv,Va,hK,S2⟩;refine⟨rk bl.length vv,xs,gd bl ic x.it g.d.k s'++ex,.gh u::.core (cB g.d.k s' F') (fn++fB)::rest,?_,?_,?_,hK⟩
       ·rw[<-hl,su];exact hvv.symm
       ·simp[gd,hl,tB]
       ·have H':=C8 H q2 q3 n3 s';have jK:=hp (gd bl ic x.it g.d.k s') (by simp[gd]);rw[rn H' hg]at jK;have Cs:(r.map λj=>aW ids (ids.getD j 0) ((gd bl ic x.it g.d.k s').getD j ir))=r.map λj=>aW ids (ids.getD j 0) (bl.getD j ir):=by
         unfold gd;refine afy ?_;intro j hj;have:=hr j hj;simp only[List.mem_cons,List.not_mem_nil,or_false,not_or]at this;omega
        rw[Cs]at jK;have ja:ids.length=(gd bl ic x.it g.d.k s').length:=by simp[gd,hl]
        have hw2:ez ids.length (gd bl ic x.it g.d.k s')=true:=by
         unfold gd;rw[<-hl]at qw l3;refine rp ?_ _ _ (rp ?_ _ _ qw)
         ·exact gH (Nat.zero_le _) _ (iJ s')
         ·simp only[ei,xK,Cq,cK,fR,Bool.and_eq_true,Nat.blt_eq,Bool.true_and,Bool.and_true];exact l3
        rw[aY _ _ _ _ ja,a_ _ _ hw2,fJ (ids':=xs) xs ex Va];refine S2.perm ?_;show List.Perm _ ((lits ids ids (gd bl ic x.it g.d.k s')++lits xs xs ex)++(fu u++((F'.B++(fn++fB))++ak rest R)));refine List.Perm.trans ?_ ((jK.symm.append_right _).append_right _);exact di λf=>by simp only[List.countP_append];omega
     ·exact hc.elim
    ·exact hc.elim
   ·exact hc.elim
  ·exact hc.elim
 ·exact hc.elim
theorem pB {f:Nat} {M:World->LM fr} (h:ov f M):oc prog gS ⟨f,false,K5 M⟩:=⟨C9 h,λe=>by cases e⟩
end Go.Proofs.YtlkpikfddnjilaaGreatDoor
namespace Sx
open Go Go.RowKit Go.BigFrame
theorem St.Cn {ms:List Nat} {w0 w:World} {b:aC} {bs:List aC} (S:St ms w0 (b::bs) w):St ms w0 (⟨b.id,false,b.obj⟩::bs) w:=by
 refine St.mk' S.ch ?_ ?_ ?_
 ·intro x hx;rcases List.mem_cons.1 hx with rfl|hx
  ·exact S.at' (x:=b) (List.mem_cons_self)
  ·exact S.at' (List.mem_cons_of_mem _ hx)
 ·intro x hx h;rcases List.mem_cons.1 hx with rfl|hx
  ·cases h
  ·exact S.rD (List.mem_cons_of_mem _ hx) h
 ·have:=List.pairwise_cons.1 S.pw;refine List.pairwise_cons.2 ⟨?_,this.2⟩;intro y hy h;refine this.1 y hy ?_;rcases h with h|h
  ·cases h
  ·exact .inr h
end Sx
namespace Go.Proofs.YtlkpikfddnjilaaGreatDoor
open Go Go.RowKit Go.BigFrame Sx Vx
variable{fr:Sd.Reply->Nat×Sd.Byt}
def nn (s:Sd.Scene):Sd.Scene:=⟨s.c,[],[]⟩
def C_ (l:List Sd.Rec) (j:Nat):List Value:=[.int .i64 (l.getD j default).kind,.int .i64 (l.getD j default).source,.int .i64 (l.getD j default).seq,.int .i64 (l.getD j default).epoch,.int .i64 (l.getD j default).code,.int .i64 (l.getD j default).how]
theorem Da:∀(l:List Sd.Rec),(List.range l.length).flatMap (C_ l)=oh l
 |[]=>rfl
 |r::l=>by
  rw[List.length_cons,List.range_succ_eq_map,List.flatMap_cons,List.flatMap_map];have e:(λj=>C_ (r::l) (Nat.succ j))=C_ l:=by funext j;rfl
  rw[e,Da l];rfl
def FZ (ty z n:Nat) (g:Nat->List Value) (us:List Value):VB:=⟨false,ty,[.fY z n g,.rest us]⟩
theorem H2 (ids:List Nat) (ty z n:Nat) (g:Nat->List Value) (us:List Value):ai ids (FZ ty z n g us).c=(List.range n).flatMap g++us:=by
 simp only[FZ,ai,cl,List.append_nil]
def AD (l:List (Int×Sd.Reply)) (fv:Nat->Value) (j:Nat):List Value:=[.int .i64 (l.getD j default).1,fv j]
def P7 (fr:Sd.Reply->Nat×Sd.Byt) (l:List (Int×Sd.Reply)) (fv:Nat->Value) (fn:List aC):Prop:=∀j,j<l.length->∃x c b,fv j=.slice x (fr (l.getD j default).2).1 c/\cL 5 (fr (l.getD j default).2).1 (fr (l.getD j default).2).2 x c b/\∀y∈b,y∈fn
theorem VO {l:List (Int×Sd.Reply)} {so:List Value} {B:List aC} (h:vi fr l so B):∃fv,so=(List.range l.length).flatMap (AD l fv)/\P7 fr l fv B:=by
 induction h with
 |nil=>exact⟨λ_=>.slice none 0 0,rfl,λj hj=>absurd hj (by simp)⟩
 |@snoc l olds bl h k r x c b hb ih=>
  obtain⟨fv,e,hf⟩:=ih;refine⟨λj=>if j=l.length then .slice x (fr r).1 c else fv j,?_,?_⟩
  ·rw[List.length_append,List.length_singleton,List.range_succ,List.flatMap_append,e];congr 1
   ·simp only[List.flatMap_def];congr 1;apply List.map_congr_left;intro j hj;have hj:=List.mem_range.1 hj;unfold AD;dsimp only;rw[if_neg (show¬j=l.length by omega),List.getD_eq_getElem?_getD,List.getD_eq_getElem?_getD,List.getElem?_append_left hj]
   ·simp[AD,List.getD]
  ·intro j hj;by_cases h1:j=l.length
   ·subst h1;have e2:(l++[(k,r)]).getD l.length default=(k,r):=by simp[List.getD]
    rw[e2];exact⟨x,c,b,by simp,hb,λy hy=>by simp[hy]⟩
   ·have Rk:j<l.length:=by simp at hj;omega
    obtain⟨x',c',b',h2,h3,h4⟩:=hf j Rk;have e2:(l++[(k,r)]).getD j default=l.getD j default:=by rw[List.getD_eq_getElem?_getD,List.getD_eq_getElem?_getD,List.getElem?_append_left Rk]
    rw[e2];exact⟨x',c',b',by simp only[if_neg h1];exact h2,h3,λy hy=>by simp[h4 y hy]⟩
def P8 (s:Sd.Scene) (vs vr:V):V:=.agg [.int .i64 s.c.mode,.int .i64 s.c.pt.cls,.int .i64 s.c.pt.now.a,.int .i64 s.c.pt.now.b,.int .i64 s.c.pt.now.c,.int .i64 s.c.pt.now.d,.int .i64 s.c.bP.mi,.int .i64 s.c.bP.source,.int .i64 s.c.bP.seq,
 .int .i64 s.c.pt.eJ.mi,.int .i64 s.c.pt.eJ.source,.int .i64 s.c.pt.eJ.seq,vs,vr,.ew .u8 32 s.c.head]
structure TR where
 xs:Option Addr
 cs:Nat
 ts:Nat
 us:List Value
 fv:Nat->Value
 xr:Option Addr
 cr:Nat
 tr:Nat
 ur:List Value
def TR.sB (r:TR) (s:Sd.Scene):VB:=FZ r.ts 2 s.sent.length (AD s.sent r.fv) r.us
def TR.rB (r:TR) (s:Sd.Scene):VB:=FZ r.tr 6 s.recs.length (C_ s.recs) r.ur
def TR.v (r:TR) (s:Sd.Scene) (i:Nat):V:=P8 s (.je i 0 s.sent.length r.cs r.xs) (.je (i+1) 0 s.recs.length r.cr r.xr)
def ow (k:LK) (sv:Sd.Scene) (K:LKb fr k):Prop:=∀(s':Sd.Scene),s'=sv->∀(r:TR) (fn:List aC) (F0:cz fr (b9 k (nn s'))),cJ=F0.vs->cJ=F0.vr->P7 fr s'.sent r.fv fn->K (r.v s' 0) (nn s') F0 fn [r.sB s',r.rB s']
theorem VP {k:LK} {s':Sd.Scene} (F':cz fr (b9 k s')):∃F0:cz fr (b9 k (nn s')),cJ=F0.vs/\cJ=F0.vr/\F0.B=F'.Bq++F'.Bk:=
 ⟨⟨none,0,none,0,F'.Bq,[],[],[],F'.Bk,[],F'.hq,iA 6 65,iA 2 69,.nil,F'.hk⟩,rfl,rfl,rfl⟩
theorem H3 {ms:List Nat} {w0 w:World} {z T n c:Nat} {olds:List Value} {x:Option Addr} {B R:List aC} {k:LK} {g:Nat->List Value} (h:eO z T olds x n c B) (S:St ms w0 (B++R) w) (mh:(⟨0,false,.cells (ai [] (aG k).c).toArray k.tg (0,0)⟩:aC)∈R) (hg:olds=(List.range n).flatMap g):
 ∃(i ty:Nat) (us:List Value),Value.slice x n c=.slice (bif Nat.beq n 0 then x else some ⟨i,0,none⟩) n c/\St ms w0 (⟨i,false,.cells ((List.range n).flatMap g++us).toArray ty (0,0)⟩::R) w:=by
 rcases h.2.2 with⟨rfl,rfl,rfl,rfl⟩|⟨b,tail,rfl,rfl,_⟩
 ·exact⟨0,k.tg,ai [] (aG k).c,rfl,by simpa using S.dup mh rfl⟩
 ·refine⟨b,T,tail,?_,?_⟩
  ·cases Nat.beq n 0<;>rfl
  ·rw[<-hg];exact S.Cn
theorem lD {f n:Nat} {M:World->LM fr} {L:List (eG (Gh fr))} (hL:ao prog gS L)
 (h:∀(u:World) (ar:List V) (k:LK) (s:Sd.Scene) (F:cz fr (b9 k s)) (Kb:LKb fr k),cK 0 ar=true->s.c.p.queue=k.most->M u ar k s F Kb->c_ (dQ prog gS L) n f (.ptr 2 0::ar) (gz k s) [cB k s F] (oq k s λs' F'=>ow k s' Kb)):ov f M:=by
 intro u ar k s F Kb a b R0 ms w0 w h0 hq hM S;generalize hR:fu u++R0=R at S⊢;have hg:Gl gS (fH a b):=by
  intro g i iK;unfold gS at iK;split at iK
  ·obtain rfl:=Option.some.inj iK;exact⟨by simp,rfl⟩
  ·obtain rfl:=Option.some.inj iK;exact⟨by simp,rfl⟩
  ·cases iK
 refine(bW hL.T hL.Q n (C:=dQ prog gS L) (ids:=fH a b) (bl:=gz k s) (ch:=[cB k s F]) (R:=R) (ms:=ms) (w0:=w0) (w:=w) hg rfl (by
  have e:ak [cB k s F] R=F.B++R:=rfl;rw[e];exact S) (h u ar k s F Kb h0 hq hM)).mono ?_
 rintro v w' ⟨x,more,bl',ch',rfl,h1,S',s',F',rfl,hb,rfl,hT⟩;have hl4:(gz k s').length=4:=rfl;have gp:bl'=gz k s'++bl'.drop 4:=by rw[<-hb,List.take_append_drop]
 rw[gp]at S';have e2:lits (fH a b++more) (fH a b++more) (gz k s'++bl'.drop 4)=lits (fH a b) (fH a b) (gz k s')++lits (fH a b++more) more (bl'.drop 4):=by
  rw[aY _ _ _ _ (by rw[hl4];rfl)];rw[a_ (ids:=fH a b) (more:=more) (fH a b) (gz k s') rfl]
 rw[e2]at S';obtain⟨F0,v1,v2,hB⟩:=VP F';have e3:ak [cB k s' F'] R=F'.Br++(F'.Bs++(F'.Bf++(F'.Bq++F'.Bk)))++R:=rfl;rw[e3]at S';have nY:gz k (nn s')=gz k s':=rfl;have S1:St ms w0 (F'.Br++(F'.Bs++(lits (fH a b) (fH a b) (gz k (nn s'))++(F0.B++(F'.Bf++R))))) w':=by
  rw[nY,hB];have S2:St ms w0 (lits (fH a b) (fH a b) (gz k s')++(F'.Br++(F'.Bs++(F'.Bf++(F'.Bq++F'.Bk)))++R)) w':=by
   refine S'.sub ?_;simp only[List.append_assoc];exact List.Sublist.append_left (List.sublist_append_right _ _) _
  exact S2.perm (di λf=>by simp only[List.countP_append];omega)
 have mh:(⟨0,false,.cells (ai [] (aG k).c).toArray k.tg (0,0)⟩:aC)∈lits (fH a b) (fH a b) (gz k (nn s')):=by
  have:aW (fH a b) 0 (aG k)=aW [] 0 (aG k):=cq (gQ k);show _∈aW (fH a b) 0 (aG k)::_;rw[this];exact List.mem_cons_self
 obtain⟨fv,hso,hfr⟩:=VO F'.hf;have S2:=S1.perm (bs':=F'.Bs++(F'.Br++(lits (fH a b) (fH a b) (gz k (nn s'))++(F0.B++(F'.Bf++R))))) (di λf=>by simp only[List.countP_append];omega);obtain⟨i1,t1,u1,q1,S3⟩:=H3 (k:=k) F'.hs S2 (by simp[mh]) hso;have S3':St ms w0 (⟨i1,false,.cells ((List.range s'.sent.length).flatMap (AD s'.sent fv)++u1).toArray t1 (0,0)⟩::(F'.Br++(lits (fH a b) (fH a b) (gz k (nn s'))++(F0.B++(F'.Bf++R))))) w':=S3;have S4:=S3'.perm (bs':=F'.Br++(⟨i1,false,.cells ((List.range s'.sent.length).flatMap (AD s'.sent fv)++u1).toArray t1 (0,0)⟩::(lits (fH a b) (fH a b) (gz k (nn s'))++(F0.B++(F'.Bf++R))))) (di λf=>by simp only[List.countP_append,List.countP_cons];omega);obtain⟨i2,t2,u2,q2,S5⟩:=H3 (k:=k) F'.hr S4 (by simp[mh]) (Da s'.recs).symm
 let r:TR:=⟨F'.xs,F'.cs,t1,u1,fv,F'.xr,F'.cr,t2,u2⟩
 refine⟨_,_,F0,F'.Bf,_,[i1,i2],rfl,?_,rfl,hT _ rfl r F'.Bf F0 v1 v2 hfr,?_⟩
 ·simp only[TR.v,P8,xT,cz.vs,cz.vr,den,ai,cl];have e1:Value.slice F'.xs (b9 k s').sent.length F'.cs=_:=q1;have e2:Value.slice F'.xr (b9 k s').recs.length F'.cr=_:=q2;rw[e1,e2];rfl
 ·have e1:lits [i1,i2] [i1,i2] [r.sB s',r.rB s']=[⟨i1,false,.cells ((List.range s'.sent.length).flatMap (AD s'.sent fv)++u1).toArray t1 (0,0)⟩,⟨i2,false,.cells ((List.range s'.recs.length).flatMap (C_ s'.recs)++u2).toArray t2 (0,0)⟩]:=by
   simp only[lits,aW,TR.rB,TR.sB,H2,r];rfl
  rw[e1];have S6:St ms w0 (⟨i2,false,.cells ((List.range s'.recs.length).flatMap (C_ s'.recs)++u2).toArray t2 (0,0)⟩::(⟨i1,false,.cells ((List.range s'.sent.length).flatMap (AD s'.sent fv)++u1).toArray t1 (0,0)⟩::(lits (fH a b) (fH a b) (gz k (nn s'))++(F0.B++(F'.Bf++R))))) w':=S5;refine S6.perm ?_;exact di λf=>by simp only[List.countP_append,List.countP_cons,List.countP_nil];omega
structure bo (k:LK) (s:Sd.Scene):Prop where
 i:Sd.Inv s.c
 x:Sd.Ext s.c
 key:∀i,i<4->1<=k.kn i/\k.kn i<=64
 ke:∀i,i<4->s.c.p.k i=(k.kn i,k.kf i)
 e1:s.sent=[]
 e2:s.recs=[]
theorem bo.rm {k:LK} {s:Sd.Scene} (h:bo k s) (n:Nat) (hn:n<=1000):Rm s n:=⟨by rw[h.e1];simpa using hn,by rw[h.e2];simpa using hn⟩
theorem bo.tb {k:LK} {s:Sd.Scene} (h:bo k s):TB s.c.t:=⟨h.i.tok.holder,h.i.eH⟩
theorem bo.tk {k:LK} {s:Sd.Scene} (h:bo k s):TkP s where
 c:=⟨h.i.p,h.tb,h.x.t.oa.1,h.x.t.oa.2,h.x.t.la.1,h.x.t.la.2,by rcases h.i.tok.offer with e|e<;>omega,
  λa ha=>by
   obtain⟨_,h1,h2,_,_,h3,h4,h5⟩:=h.i.q.each a ha;have:=h.i.p.ask;exact⟨⟨by omega,by omega⟩,⟨by omega,by omega⟩,⟨by omega,by omega⟩⟩,
  ⟨h.x.pt.cg.1,h.x.pt.cg.2.1,h.x.pt.cg.2.2.1,h.x.pt.cg.2.2.2,h.x.pt.now.1,h.x.pt.now.2.1,h.x.pt.now.2.2.1,h.x.pt.now.2.2.2⟩⟩
 r:=h.rm 28 (by decide)
 h:=h.x.tab.hi
 b:=⟨h.x.tab.st,h.x.tab.ss 0,h.x.tab.ss 1,h.x.tab.ss 2⟩
def AE (C:Sd.Crypt):LM fr:=λar k s F K=>match ar with
 |[]=>(bo k s/\cJ=F.vs/\cJ=F.vr)/\ow k (s.tick C) K
 |_=>False
def v5 (C:Sd.Crypt):LM fr:=λar k s F K=>match ar with
 |[.bool b]=>(bo k s/\cJ=F.vs/\cJ=F.vr)/\ow k (s.h_ C b) K
 |_=>False
def v7 (C:Sd.Crypt):LM fr:=λar k s F K=>match ar with
 |[.agg xl]=>(match Jy xl with
  |some x=>(bo k s/\cJ=F.vs/\cJ=F.vr)/\ow k (s.dD C x) K
  |none=>False)
 |_=>False
def iL (C:Sd.Crypt) (s:Sd.Scene) (l code:Int) (n:Nat) (f:Sd.Byt):Sd.Scene:=if 1<=l/\l<=3 then s.item C l code n f else s
def P9 (C:Sd.Crypt):LM fr:=λar k s F K=>match ar with
 |[.int .i64 l,.agg [.int .i64 code,.raw vp]]=>(bo k s/\cJ=F.vs/\cJ=F.vr/\vp=eb k/\k.pn<=58/\By k.pf)/\ow k (iL C s l code k.pn k.pf) K
 |_=>False
def P_:LM fr:=λar k s F K=>match ar with
 |[]=>(bo k s/\cJ=F.vs/\cJ=F.vr)/\ow k s K
 |_=>False
theorem VQ {k:LK} {s:Sd.Scene} {F:cz fr (b9 k s)} (hq:s.c.p.queue=k.most) (h1:cJ=F.vs) (h2:cJ=F.vr):PK k s F:=⟨h1,h2,rfl,rfl,rfl,rfl,rfl,hq⟩
section
variable(k:LK) (s:Sd.Scene) (F:cz fr (b9 k s)) (Kb:(s':Sd.Scene)->cz fr (b9 k s')->Prop)
theorem VR (C:Sd.Crypt):c_ (dQ prog gS (LC fr C)) 60 17 [.ptr 2 0] (gz k s) [cB k s F] (oq k s Kb)=oq k s Kb (.agg (xT s cJ cJ)) (gz k s) [cB k s F]:=by kernel_rfl
end
end Go.Proofs.YtlkpikfddnjilaaGreatDoor
namespace Go.Proofs.YtlkpikfddnjilaaGreatDoor
open Go Go.RowKit Go.BigFrame Sx Vx
variable{fr:Sd.Reply->Nat×Sd.Byt}
section
variable(ht:Body (fr:=fr) 130 bN)
include ht
theorem v8:ov (fr:=fr) 15 (λ_=>AE (aq cu)):=by
 refine lD (n:=60) (C1 ht) ?_;intro u ar k s F Kb h0 hq hM;unfold AE at hM;split at hM
 ·rw[PL];exact⟨VQ hq hM.1.2.1 hM.1.2.2,fj (M:=C0 (aq cu)) ⟨hM.1.1.tk,λF'=>⟨_,F',rfl,rfl,rfl,hM.2⟩⟩⟩
 ·exact hM.elim
theorem AF:ov (fr:=fr) 36 (λ_=>v5 (aq cu)):=by
 refine lD (n:=60) (C1 ht) ?_;intro u ar k s F Kb h0 hq hM;unfold v5 at hM;split at hM
 ·rename_i b;rw[FO];exact⟨VQ hq hM.1.2.1 hM.1.2.2,fj (M:=qW (aq cu)) ⟨⟨hM.1.1.rm 8 (by decide),hM.1.1.tb⟩,λF'=>⟨_,F',rfl,rfl,rfl,hM.2⟩⟩⟩
 ·exact hM.elim
theorem AG:ov (fr:=fr) 35 (λ_=>v7 (aq cu)):=by
 refine lD (n:=60) (C1 ht) ?_;intro u ar k s F Kb h0 hq hM;unfold v7 at hM;split at hM
 ·rename_i xl;split at hM
  ·rename_i x hx;obtain rfl:=tN hx;rw[FP];have hb:dB s.c.samples:=⟨by have:=hM.1.1.i.samples;omega,by have:=hM.1.1.i.samples;omega⟩;refine⟨VQ hq hM.1.2.1 hM.1.2.2,fj (M:=O3 (aq cu)) ?_⟩;show(St0 s/\dB s.c.samples/\dB s.c.beyond)/\_;exact⟨⟨⟨hM.1.1.rm 8 (by decide),hM.1.1.i.p,hM.1.1.tb⟩,hb,hM.1.1.x.be⟩,λF'=>⟨_,F',rfl,rfl,rfl,hM.2⟩⟩
  ·exact hM.elim
 ·exact hM.elim
theorem F5:ov (fr:=fr) 22 (λ_=>P9 (aq cu)):=by
 refine lD (n:=60) (C1 ht) ?_;intro u ar k s F Kb h0 hq hM;unfold P9 at hM;split at hM
 ·rename_i l code vp;have hC:=hM.1.1;have v1:=hM.1.2.1;have v2:=hM.1.2.2.1;have p1:=hM.1.2.2.2.2.1;have p2:=hM.1.2.2.2.2.2;have hT:=hM.2;rw[hM.1.2.2.2.1,PM];unfold afb;have KV:¬(1<=l/\l<=3)->oq k s (λs' F'=>ow k s' Kb) (.agg (xT s cJ cJ)) (gz k s) [cB k s F]:=λh=>⟨s,F,by rw[<-v1,<-v2],rfl,rfl,by unfold iL at hT;rw[if_neg h]at hT;exact hT⟩;refine aS (λe1=>aS (λe2=>?_) (λe2=>KV (by simp at e1 e2;omega))) (λe1=>KV (by simp at e1;omega));have hl:1<=l/\l<=3:=by simp at e1 e2;omega
  unfold iL at hT;rw[if_pos hl]at hT;have hd:∀i,i<3->(s.c.doors i).many<=9223372036854775807:=λi _=>by have:=hC.x.d i;omega
  exact⟨VQ hq v1 v2,fj (M:=CX (aq cu)) ⟨⟨rfl,⟨hC.rm 8 (by decide),hC.i,hl,hd,hC.key,hC.ke,p1,p2⟩⟩,λF'=>⟨_,F',rfl,rfl,rfl,hT⟩⟩⟩
 ·exact hM.elim
theorem Kr:ov (fr:=fr) 17 (λ_=>P_ (fr:=fr)):=by
 refine lD (n:=60) (C1 ht) ?_;intro u ar k s F Kb h0 hq hM;unfold P_ at hM;split at hM
 ·rw[VR];exact⟨s,F,by rw[<-hM.1.2.1,<-hM.1.2.2],rfl,rfl,hM.2⟩
 ·exact hM.elim
end
def sw (l:List Sd.Ask) (j:Nat):List Value:=[.int .i64 (l.getD j default).source]
theorem Db:∀(l:List Sd.Ask) (ids:List Nat),(List.range l.length).flatMap (sw l)=ai ids (vS l)
 |[],_=>rfl
 |r::l,ids=>by
  rw[List.length_cons,List.range_succ_eq_map,List.flatMap_cons,List.flatMap_map];have e:(λj=>sw (r::l) (Nat.succ j))=sw l:=by funext j;rfl
  rw[e,Db l ids];rfl
def afe (k:LK) (s:Sd.Scene) (F:cz fr (b9 k s)) (K:LKb fr k):Prop:=
 ∀(x:Option Addr) (c ty:Nat) (us:List Value),K (.agg (ot s (.je 0 0 s.c.q.length c x))) s F [] [FZ ty 1 s.c.q.length (sw s.c.q) us]
def AH:LM fr:=λar k s F K=>match ar with
 |[]=>afe k s F K
 |_=>False
theorem F6 (l:List Sd.Ask) (u:List Value):ez 0 [FQ l u]=true:=by
 have:∀l:List Sd.Ask,cK 0 (vS l++[.rest u])=true:=by
  intro l;induction l with
  |nil=>rfl
  |cons a l ih=>simp only[vS,List.cons_append,cK,fR,ih,Bool.and_self]
 simp only[ez,FQ,this,Bool.and_self]
theorem l7 {Q:Prop} (hq:Q):∀(n j:Nat),n+j<=5->VC n j Q
 |0,_,_=>hq
 |n+1,j,h=>⟨trivial,⟨by omega,by omega⟩,trivial,trivial,l7 hq n (j+1) (by omega)⟩
theorem v9 (ht:Body (fr:=fr) 130 bN):ov (fr:=fr) 12 (λ_=>AH (fr:=fr)):=by
 intro u0 ar k s F Kb a b R0 ms w0 w h0 hq hM S;generalize hR:fu u0++R0=R at S⊢;unfold AH at hM;split at hM
 ·have hg:Gl gS (fH a b):=by
   intro g i iK;unfold gS at iK;split at iK
   ·obtain rfl:=Option.some.inj iK;exact⟨by simp,rfl⟩
   ·obtain rfl:=Option.some.inj iK;exact⟨by simp,rfl⟩
   ·cases iK
  let K:VK (Gh fr):=λv bl ch=>ch=[cB k s F]/\((s.c.q=[]/\v=.agg (ot s (.raw cJ))/\bl=gz k s)\/(s.c.q≠[]/\∃c u,v=.agg (ot s (.sl 4 0 s.c.q.length c))/\bl=gz k s++[FQ s.c.q u]))
  have k0:s.c.q=[]->K (.agg (ot s (.raw cJ))) (gz k s) [cB k s F]:=λe=>⟨rfl,.inl ⟨e,rfl,rfl⟩⟩;have k1:s.c.q≠[]->∀c u,K (.agg (ot s (.sl 4 0 s.c.q.length c))) (gz k s++[FQ s.c.q u]) [cB k s F]:=λe c u=>⟨rfl,.inr ⟨e,c,u,rfl,rfl⟩⟩;have fW:c_ (wU prog gS (L8 fr (aq cu)) (MA prog) tK) 60 12 [.ptr 2 0] (gz k s) [cB k s F] (eB 4 K):=by
   rw[VD];refine⟨rfl,λe x c=>l7 (k0 e) 5 0 (by decide),λa1 e c t c1 u1 _ _=>?_,λa1 b1 e c t c1 u1 h1 h2=>?_,λa1 b1 d1 e c t c1 u1 h1 h2=>?_⟩
   ·have:=k1 (by rw[e];simp) c1 u1;rw[e]at this;exact l7 this 5 0 (by decide)
   ·have hk:=k1 (by rw[e];simp);rw[e]at hk;exact⟨⟨h1,h2⟩,λc2 u2 _ _=>l7 (hk c2 u2) 5 0 (by decide),λc2 u2 _ _=>l7 (hk c2 u2) 5 0 (by decide)⟩
   ·have hk:=k1 (by rw[e];simp);rw[e]at hk;exact⟨⟨h1,h2⟩,λc2 u2 g1 g2=>⟨⟨g1,g2⟩,λc3 u3 _ _=>l7 (hk c3 u3) 5 0 (by decide),λc3 u3 _ _=>l7 (hk c3 u3) 5 0 (by decide)⟩,λc2 u2 g1 g2=>⟨⟨g1,g2⟩,λc3 u3 _ _=>l7 (hk c3 u3) 5 0 (by decide),λc3 u3 _ _=>l7 (hk c3 u3) 5 0 (by decide)⟩⟩
  refine(bW (vD cu ht).T (vD cu ht).Q 60 (C:=wU prog gS (L8 fr (aq cu)) (MA prog) tK) (ids:=fH a b) (bl:=gz k s) (ch:=[cB k s F]) (R:=R) (ms:=ms) (w0:=w0) (w:=w) hg rfl (by
   have e:ak [cB k s F] R=F.B++R:=rfl;rw[e];exact S) fW).mono ?_
  rintro v w' ⟨x,more,bl',ch',rfl,h1,S',hK⟩;obtain⟨v2,bj,bl2,hv,ja,S2,rfl,hK2⟩:=eQ (n0:=4) h1 (by simp) S' hK;have ht4:(fH a b++more).take 4=fH a b:=rfl;rw[ht4]at hv ja S2;have eR:ak [cB k s F] R=F.B++R:=rfl;rw[eR]at S2;rw[hv];have jR:∀(i ty:Nat) (us:List Value),lits [i] [i] [FZ ty 1 s.c.q.length (sw s.c.q) us]=[⟨i,false,.cells ((List.range s.c.q.length).flatMap (sw s.c.q)++us).toArray ty (0,0)⟩]:=λi ty us=>by
   simp only[lits,aW,H2];rfl
  rcases hK2 with⟨e,rfl,rfl⟩|⟨e,c,u,rfl,rfl⟩
  ·obtain rfl:bj=[]:=List.eq_nil_of_length_eq_zero (by simpa[gz]using ja);refine⟨_,s,F,[],_,[0],rfl,?_,rfl,hM none 0 k.tg (ai [] (aG k).c),?_⟩
   ·simp only[ot,mr,RE,den,ai,cl,List.append_nil,List.cons_append,List.nil_append,e];rfl
   ·simp only[List.append_nil]at S2;have S3:=S2.dup (b:=aW [0] 0 (aG k)) (by
     refine List.mem_append_left _ ?_;rw[cq (ids':=fH a b) (gQ k)];exact List.mem_cons_self) rfl
    rw[jR];have e2:(⟨0,false,.cells ((List.range s.c.q.length).flatMap (sw s.c.q)++ai [] (aG k).c).toArray k.tg (0,0)⟩:aC)=aW [0] 0 (aG k):=by
     rw[e,cq (ids':=[]) (gQ k)];rfl
    rw[e2];exact S3.perm List.perm_middle.symm
  ·match bj,ja with
   |[x],_=>
    refine⟨_,s,F,[],_,[x],rfl,?_,rfl,hM none c 3 u,?_⟩
    ·have hn:Nat.beq s.c.q.length 0=false:=by
      cases hb:Nat.beq s.c.q.length 0 with
      |false=>rfl
      |true=>exact absurd (List.eq_nil_of_length_eq_zero (Nat.eq_of_beq_eq_true hb)) e
     have hg4:(fH a b++[x]).getD 4 0=x:=rfl;have hg1:([x]:List Nat).getD 0 0=x:=rfl;simp only[ot,mr,RE,den,ai,cl,List.append_nil,List.cons_append,List.nil_append,hn,cond_false,hg4,hg1];rfl
    ·have e2:lits (fH a b++[x]) (fH a b++[x]) (gz k s++[FQ s.c.q u])=lits (fH a b) (fH a b) (gz k s)++[⟨x,true,.cells ((List.range s.c.q.length).flatMap (sw s.c.q)++u).toArray 3 (0,0)⟩]:=by
      rw[aY _ _ _ _ rfl,a_ (ids:=fH a b) (more:=[x]) (fH a b) (gz k s) rfl,fJ (ids':=[x]) [x] _ (F6 _ _)];simp only[lits,aW,FQ,bH,ai,cl,List.append_nil,Db s.c.q [x]]
     rw[e2]at S2;have S3:=(S2.perm (bs':=⟨x,true,.cells ((List.range s.c.q.length).flatMap (sw s.c.q)++u).toArray 3 (0,0)⟩::(lits (fH a b) (fH a b) (gz k s)++(F.B++R))) (di λf=>by simp only[List.countP_append,List.countP_cons,List.countP_nil];omega)).Cn;rw[jR];exact S3.perm (di λf=>by simp only[List.countP_append,List.countP_cons,List.countP_nil];omega)
   |[],h=>simp[gz]at h
   |_::_::_,h=>simp[gz]at h
 ·exact hM.elim
theorem VS (d:Fd) (h:(∃i,i<4/\d=fX i)\/∀v m,(d.set v m).x=m.x):∀v,d.low<=v->v<=d.high->∀m:Sd.dw,Sd.DL m.x->Sd.DL (d.set v m).x:=by
 intro v h1 h2 m hm;rcases h with⟨i,hi,rfl⟩|h
 ·have hv:Sd.Bd v:=⟨by have:(-32768:Int)<=v:=h1;omega,by have:v<=(32767:Int):=h2;omega⟩;have:i=0\/i=1\/i=2\/i=3:=by omega
  rcases this with rfl|rfl|rfl|rfl
  ·exact⟨hv,hm.2.1,hm.2.2.1,hm.2.2.2⟩
  ·exact⟨hm.1,hv,hm.2.2.1,hm.2.2.2⟩
  ·exact⟨hm.1,hm.2.1,hv,hm.2.2.2⟩
  ·exact⟨hm.1,hm.2.1,hm.2.2.1,hv⟩
 ·rw[h];exact hm
theorem aff {n:Nat} {f:Nat->Int} {m:Sd.dw} (h:cu n f=some m):Sd.DL m.x:=by
 unfold cu at h;split at h
 ·cases h
 split at h
 ·rename_i l hl;refine qY (λm=>Sd.DL m.x) l 1 _ m ?_ Sd.x40 h;intro d hd;refine VS d ?_;have fx:∀i,i<4->(∃j,j<4/\fX i=fX j)\/∀v m,((fX i).set v m).x=m.x:=λi hi=>.inl ⟨i,hi,rfl⟩;have b0:=fx 0 (by decide);have b1:=fx 1 (by decide);have b2:=fx 2 (by decide);have b3:=fx 3 (by decide)
  have fo:∀d:Fd,(∀v m,(d.set v m).x=m.x)->(∃i,i<4/\d=fX i)\/∀v m,(d.set v m).x=m.x:=λd h=>.inr h;have a1:=fo vb λ_ _=>rfl;have a2:=fo iX λ_ _=>rfl;have a3:=fo fTo λ_ _=>rfl;have a4:=fo il λ_ _=>rfl;have a5:=fo xI λ_ _=>rfl;have a6:=fo w7 λ_ _=>rfl;have a7:=fo JL λ_ _=>rfl
  unfold m7 at hl
  repeat' split at hl
  all_goals first|(cases hl;done)|(obtain rfl:=Option.some.inj hl;simp at hd;rcases hd with rfl|rfl|rfl|rfl|rfl|rfl|rfl<;>assumption)|(obtain rfl:=Option.some.inj hl;simp at hd;rcases hd with rfl|rfl|rfl|rfl|rfl|rfl<;>assumption)|(obtain rfl:=Option.some.inj hl;simp at hd;rcases hd with rfl|rfl|rfl|rfl|rfl<;>assumption)|(obtain rfl:=Option.some.inj hl;simp at hd;rcases hd with rfl|rfl|rfl|rfl<;>assumption)|(obtain rfl:=Option.some.inj hl;simp at hd;rcases hd with rfl|rfl|rfl<;>assumption)|(obtain rfl:=Option.some.inj hl;simp at hd;rcases hd with rfl|rfl<;>assumption)|(obtain rfl:=Option.some.inj hl;simp at hd;subst hd;assumption)|(obtain rfl:=Option.some.inj hl;simp at hd)
 ·cases h
section
variable{k:LK} {s:Sd.Scene} {b:Prop}
theorem Qa {C:Sd.Crypt} {s':Sd.Scene} {kind l:Int} (e:Sd.nV C b s s' kind l):s'.c.p=s.c.p:=by
 rcases e.NK with h|⟨how,h,_⟩
 ·exact h.p
 ·exact h.p
theorem bo.of {C:Sd.Crypt} {s':Sd.Scene} {kind l:Int} (h:bo k s) (e:Sd.nV C b s s' kind l) (x:Sd.Ext s'.c):bo k (nn s'):=⟨e.1,x,h.key,λi hi=>by show s'.c.p.k i=_;rw[Qa e];exact h.ke i hi,rfl,rfl⟩
theorem bo.tick (h:bo k s):bo k (nn (s.tick (aq cu))):=h.of (b:=False) (Sd.C4 h.i).1 (Sd.P4 h.i h.x)
theorem bo.h_ (h:bo k s) (x:Bool):bo k (nn (s.h_ (aq cu) x)):=h.of (b:=False) (Sd.vW h.i) (Sd.FY h.x)
theorem bo.dD (h:bo k s) {x:Sd.dM} (hx:Sd.DL x.x):bo k (nn (s.dD (aq cu) x)):=h.of (b:=False) (Sd.vT h.i) (Sd.FX hx h.i.p h.x)
theorem bo.item (h:bo k s) (l code:Int) (n:Nat) (f:Sd.Byt):bo k (nn (iL (aq cu) s l code n f)):=by
 unfold iL;split
 ·rename_i hl;exact h.of (b:=False) (Sd.Ce jN h.i hl (λe=>e.elim)) (Sd.P2 (λ_ _ _ hm=>aff hm) hl h.i.p h.x)
 ·exact⟨h.i,h.x,h.key,h.ke,rfl,rfl⟩
end
def dt (u:World) (a:Option Addr):Sd.Byt:=λj=>match a with
 |some x=>(match u.cell? (x.add j)with|some (.int _ v)=>if 0<=v/\v<=255 then v else 0|_=>0)
 |none=>0
theorem VT (u:World) (a:Option Addr):By (dt u a):=by
 intro j;unfold dt;split
 ·split
  ·split
   ·assumption
   ·exact⟨by decide,by decide⟩
  ·exact⟨by decide,by decide⟩
 ·exact⟨by decide,by decide⟩
theorem abq {u:World} {a:Option Addr} {n c:Nat} {f:Nat->Int} (h:eE u a n c f) (hb:∀j,j<n->0<=f j/\f j<=255):eE u a n c (dt u a):=by
 refine⟨h.1,h.2.1,λx e j hj=>?_⟩;have hc:=h.2.2 x e j hj;have:dt u a j=f j:=by
  unfold dt;rw[e];simp only[hc];rw[if_pos (hb j hj)]
 rw[this];exact hc
def wa:Sd.Byt:=λ_=>0
def fa (n d:Nat) (f:Sd.Byt):VB:=⟨true,⟨5,(0,0)⟩,[.ew .u8 n f,.ew .u8 d wa]⟩
theorem rq (ids:List Nat) (n d:Nat) (f:Sd.Byt):(ai ids (fa n d f).c).toArray=cd n f (n+d):=by
 have e:(List.range d).map (λj=>Value.int .u8 (wa j))=List.replicate d (.int .u8 0):=by
  show(List.range d).map (λ_=>Value.int .u8 0)=_;rw[List.map_const'];simp
 simp only[fa,ai,cl,cd,fQ,List.append_nil,e];rw[show n+d-n=d by omega]
theorem Qb {u w:World} {B:List aC} {ms:List Nat} {w0:World} (S:St ms w0 B w) (h:∀y∈fu u,y∈B) {x:Addr} {v:Value} (hc:u.cell? x=some v):w.cell? x=some v:=by
 unfold World.cell? at hc⊢;split at hc
 ·rename_i cs ty fr' hb;have:=S.at' (h _ (P5 hb));simp only at this;rw[this];exact hc
 ·cases hc
theorem F7 {u w:World} {B:List aC} {ms:List Nat} {w0:World} (S:St ms w0 B w) (h:∀y∈fu u,y∈B) {a:Option Addr} {n c:Nat} {f:Nat->Int} (hk:eE u a n c f):eE w a n c f:=
 ⟨hk.1,hk.2.1,λx e j hj=>Qb S h (hk.2.2 x e j hj)⟩
theorem wb {w:World} {m:Nat} {g:Nat->Int} {x:Option Addr} {t tx ty:TypeId} {xv:Value} (hs:Src prog 1 tx xv m (fQ m g) w) (ht:prog.underlying t=some (.slice 5)) (hm:0<m) (hb:m<=140737488355328) (x:Addr):
 ∃c' w',(Builtin.append_ #[t,tx] ty #[.slice (some x) 0 0,xv]).run prog w=.ok (.slice (some ⟨w.heap.size,0,none⟩) m c') w'/\Ch [] w w'/\m<=c'/\w'.heap[w.heap.size]?=some (.cells (cd m g c') 5 (0,0)):=by
 have hi:(prog.info? 5).map (λi=>(i.zero.map (·.cells),i.size,i.bytes))=some (some #[.int .u8 0],1,1):=by kernel_rfl
 obtain⟨i,bd,hi⟩:=Option.map_eq_some_iff.1 hi;simp only[Prod.mk.injEq]at hi;obtain⟨hz,iZ,Dz⟩:=hi;obtain⟨z0,DA,Iy⟩:=Option.map_eq_some_iff.1 hz;have wA:Src prog i.size tx xv m (fQ m g) w:=by rw[iZ];exact hs
 have hold:(Builtin.firstCells i.size 0 (.slice (some x) 0 0)).run prog w.drew=.ok (([]:List Value).toArray) w.drew:=
  run_firstCells_some (P:=prog) w.drew i.size 0 x 0 0 [] (by rw[Nat.zero_mul];rfl) (λj v hj=>nomatch hj)
 have bO:=run_append_grow_src (P:=prog) w t tx ty 5 i z0 ht bd DA (some x) 0 0 [] hold xv m (fQ m g) wA (by omega) (by omega) (by rw[Dz];exact growslice_fits (by omega) (by omega));have rC:=grownCap_ge w (0+m) 0 5;rw[Nat.zero_add]at bO rC;refine⟨_,_,bO,((Ch.refl [] w).drew).trans (Ch.alloc [] w.drew _) (λx hx=>.inl hx),rC,?_⟩;have:=heap_alloc_new w.drew (.cells (([]++fQ m g).toArray++Builtin.zeroCells z0.cells (grownCap w m 0 5-m)) 5);refine Eq.trans this ?_;congr 2;apply Array.ext';rw[Iy,Array.toList_append,oE];rfl
theorem xX {w:World} {g:Nat->Int} {t tx ty:TypeId} {xv:Value} (hs:Src prog 1 tx xv 0 (fQ 0 g) w) (ht:prog.underlying t=some (.slice 5)) (x:Addr):
 (Builtin.append_ #[t,tx] ty #[.slice (some x) 0 0,xv]).run prog w=.ok (.slice (some x) 0 0) w:=by
 have hi:(prog.info? 5).map (λi=>(i.zero.map (·.cells),i.size,i.bytes))=some (some #[.int .u8 0],1,1):=by kernel_rfl
 obtain⟨i,bd,hi⟩:=Option.map_eq_some_iff.1 hi;simp only[Prod.mk.injEq]at hi;obtain⟨hz,iZ,Dz⟩:=hi;exact run_append_nothing (P:=prog) w t tx ty 5 i ht bd (some x) 0 0 (Nat.le_refl _) xv (by rw[iZ];exact hs)
def Ks (k:LK) (x:Option Addr) (n c:Nat) (f:Sd.Byt):LK:={k with px:=x,pn:=n,pc:=c,pf:=f}
def wc (k:LK):Prop:=k.px=none/\k.pn=0/\k.pc=0
theorem afg {k:LK} {s:Sd.Scene} (F:cz fr (b9 k s)) (h:wc k) {b n c:Nat} {f:Sd.Byt} (hle:n<=c):∃F1:cz fr (b9 (Ks k (some ⟨b,0,none⟩) n c f) s),F1.vs=F.vs/\F1.vr=F.vr/\F1.B=F.B++[⟨b,true,.cells (cd n f c) 5 (0,0)⟩]:=by
 refine⟨⟨F.xs,F.cs,F.xr,F.cr,F.Bq,F.Br,F.Bs,F.Bf,F.Bk++[⟨b,true,.cells (cd n f c) 5 (0,0)⟩],F.so,F.hq,F.hr,F.hs,F.hf,?_⟩,rfl,rfl,?_⟩
 ·obtain⟨b0,b1,b2,b3,b4,hB,h0,h1,h2,h3,h4⟩:=F.hk;have e4:b4=[]:=by
   rcases h4.2 with⟨_,_,_,e⟩|⟨y,e,_⟩
   ·exact e
   ·have:k.px=some ⟨y,0,none⟩:=e;rw[h.1]at this;cases this
  subst e4;exact⟨b0,b1,b2,b3,[⟨b,true,.cells (cd n f c) 5 (0,0)⟩],by rw[hB];simp,h0,h1,h2,h3,hle,.inr ⟨b,rfl,rfl⟩⟩
 ·simp only[cz.B,List.append_assoc]
theorem abr {k:LK} {s:Sd.Scene} (h:wc k) {b n c:Nat} {f:Sd.Byt} (F1:cz fr (b9 (Ks k (some ⟨b,0,none⟩) n c f) s)):∃F:cz fr (b9 k s),F.vs=F1.vs/\F.vr=F1.vr/\F1.B=F.B++[⟨b,true,.cells (cd n f c) 5 (0,0)⟩]:=by
 obtain⟨b0,b1,b2,b3,b4,hB,h0,h1,h2,h3,h4⟩:=F1.hk;have e4:b4=[⟨b,true,.cells (cd n f c) 5 (0,0)⟩]:=by
  rcases h4.2 with⟨e,_,_,_⟩|⟨y,e,e2⟩
  ·cases e
  ·have:(some ⟨b,0,none⟩:Option Addr)=some ⟨y,0,none⟩:=e;obtain rfl:b=y:=by simpa using this
   exact e2
 subst e4;refine⟨⟨F1.xs,F1.cs,F1.xr,F1.cr,F1.Bq,F1.Br,F1.Bs,F1.Bf,b0++(b1++(b2++(b3++[]))),F1.so,F1.hq,F1.hr,F1.hs,F1.hf,⟨b0,b1,b2,b3,[],rfl,h0,h1,h2,h3,by show k.pn<=k.pc;rw[h.2.1,h.2.2];exact Nat.le_refl _,.inl ⟨h.1,h.2.1,h.2.2,rfl⟩⟩⟩,rfl,rfl,?_⟩;simp only[cz.B,hB,List.append_assoc,List.append_nil]
def coI (C:Sd.Crypt):jq (LG fr):=λargs bl ch K=>match args,ch with
 |[.ptr ic 0,.int .i64 l,.agg [.int .i64 code,.sl ip 0 n c]],.gh u::.core g fB::rest=>(match bl[ip]?with
  |some ⟨true,⟨5,(0,0)⟩,[.ew .u8 n' f,.ew .u8 d z]⟩=>(match bl[ic]?with
   |some ⟨true,⟨97,(0,0)⟩,cc⟩=>(match xL cc with
    |some x=>(match bl[x.it]?with
     |some ⟨true,⟨143,(0,0)⟩,tc⟩=>(match vj tc with
      |some y=>cond (ez bl.length bl&&(Nat.blt 1 ip&&(Nat.blt 1 ic&&(Nat.blt 1 x.it&&(!(Nat.beq ic x.it)&&(!(Nat.beq ic ip)&&!(Nat.beq x.it ip)))))))
       ((bl[0]?=some (aG g.d.k)/\bl[1]?=some (iI g.d.k)/\x=Cq g.d.k x.it (oe x y g.d g.dx g.sx)/\y.b=x.p.bU/\y.m=x.p.bx/\x.p.queue=g.d.k.most)/\
         (n'=n/\n+d=c/\z=wa)/\wc g.d.k/\(bo g.d.k (oe x y g.d g.dx g.sx)/\cJ=g.F.vs/\cJ=g.F.vr/\n<=58/\By f)/\
         ow g.d.k (iL C (oe x y g.d g.dx g.sx) l code n f) λvv s' F' fn ex=>K (rk bl.length vv) (gd bl ic x.it g.d.k s'++ex) (.gh u::.core (cB g.d.k s' F') (fn++fB)::rest)) False
      |none=>False)
     |_=>False)
    |none=>False)
   |_=>False)
  |_=>False)
 |_,_=>False
theorem xY (ht:Body (fr:=fr) 130 bN):Sound prog gS 22 (coI (fr:=fr) (aq cu)):=by
 intro args ids bl ch R ms w0 w K hg hl S hc;unfold coI at hc;split at hc
 ·rename_i ic l code ip n c u g fB rest;split at hc
  ·rename_i n' f d z hbp;split at hc
   ·rename_i cc Rr;split at hc
    ·rename_i x hx;split at hc
     ·rename_i tc Xn;split at hc
      ·rename_i y hy;cases hq:ez bl.length bl&&(Nat.blt 1 ip&&(Nat.blt 1 ic&&(Nat.blt 1 x.it&&(!(Nat.beq ic x.it)&&(!(Nat.beq ic ip)&&!(Nat.beq x.it ip))))))with
       |false=>rw[hq]at hc;exact hc.elim
       |true=>
        rw[hq]at hc;simp only[Bool.and_eq_true,Bool.not_eq_true',Nat.blt_eq]at hq;obtain⟨qw,q1,q2,q3,q4,q5,q6⟩:=hq;have nb:∀{a b:Nat},Nat.beq a b=false->a≠b:=λh e=>by rw[e,Nat.beq_refl]at h;cases h
        have n4:=nb q4;have n5:=nb q5;have n6:=nb q6;obtain⟨⟨e3,e4,e5,e6,e7,e8⟩,⟨rfl,rfl,rfl⟩,hnp,⟨hC,v1,v2,p1,p2⟩,hT⟩:=hc;obtain rfl:=qI hx;obtain rfl:=kl hy;have H:P6 bl ic x.it g.d.k (oe x y g.d g.dx g.sx):=by
         refine⟨e3,e4,?_,?_⟩
         ·rw[Rr];congr 1;unfold ei;rw[<-e5]
         ·rw[Xn];congr 1;unfold gD;have:y=Uj (oe x y g.d g.dx g.sx):=by
           obtain⟨y1,y2,y3,y4,y5,y6,y7,y8⟩:=y;simp only at e6 e7;subst e6 e7;rfl
          rw[<-this]
        have l1:=ct hbp;have l2:=ct H.hc;have l3:=ct H.ht;obtain⟨r,hr,hp⟩:=vm (bl:=bl) (ids:=ids) hl (is:=[0,1,ic,x.it,ip]) (by simp;omega) (by
         intro i hi;simp only[List.mem_cons,List.not_mem_nil,or_false]at hi;rcases hi with rfl|rfl|rfl|rfl|rfl<;>omega)
        have emp:∀(bl':List VB),[0,1,ic,x.it,ip].map (λj=>aW ids (ids.getD j 0) (bl'.getD j ir))=([0,1,ic,x.it].map λj=>aW ids (ids.getD j 0) (bl'.getD j ir))++[aW ids (ids.getD ip 0) (bl'.getD ip ir)]:=λ_=>rfl;have afh:aW ids (ids.getD ip 0) (fa n' d f)=⟨ids.getD ip 0,true,.cells (cd n' f (n'+d)) 5 (0,0)⟩:=by
         unfold aW;rw[rq];rfl
        have eo:=hp bl rfl;rw[emp,rn H hg,cR (show bl[ip]?=some (fa n' d f)from hbp)]at eo;obtain⟨F1,f1,f2,f3⟩:=afg (k:=g.d.k) (s:=oe x y g.d g.dx g.sx) g.F hnp (b:=ids.getD ip 0) (f:=f) (Nat.le_add_right n' d);have S1:=S.perm (bs':=lits (fH (ids.getD ic 0) (ids.getD x.it 0)) (fH (ids.getD ic 0) (ids.getD x.it 0)) (gz g.d.k (oe x y g.d g.dx g.sx))++(F1.B++(fu u++((r.map λj=>aW ids (ids.getD j 0) (bl.getD j ir))++(fB++ak rest R))))) (by
         refine(eo.append_right _).trans ?_;rw[show F1.B=cz.B (d:=g.d) g.F++[⟨ids.getD ip 0,true,.cells (cd n' f (n'+d)) 5 (0,0)⟩]from f3,<-afh];show(_++(fu u++((g.F.B++fB)++ak rest R))).Perm _;exact di λf=>by simp only[List.countP_append];omega)
        have hC':bo (Ks g.d.k (some ⟨ids.getD ip 0,0,none⟩) n' (n'+d) f) (oe x y g.d g.dx g.sx):=⟨hC.i,hC.x,hC.key,hC.ke,hC.e1,hC.e2⟩;have vn:=F5 ht u [.int .i64 l,.agg [.int .i64 code,.raw (eb (Ks g.d.k (some ⟨ids.getD ip 0,0,none⟩) n' (n'+d) f))]] (Ks g.d.k (some ⟨ids.getD ip 0,0,none⟩) n' (n'+d) f) (oe x y g.d g.dx g.sx) F1
         (λvv s' F1' fn ex=>cJ=F1'.vs/\cJ=F1'.vr/\∀F':cz fr (b9 g.d.k s'),cJ=F'.vs->cJ=F'.vr->K (rk bl.length vv) (gd bl ic x.it g.d.k s'++ex) (.gh u::.core (cB g.d.k s' F') (fn++fB)::rest))
         _ _ _ ms w0 w rfl e8 ⟨⟨hC',by rw[f1];exact v1,by rw[f2];exact v2,rfl,p1,p2⟩,λs2 e2 tr fn F0 w1 w2 hf=>⟨w1,w2,λF' z1 z2=>hT s2 e2 tr fn F' z1 z2 hf⟩⟩ S1
        have ca:az ids [.ptr ic 0,.int .i64 l,.agg [.int .i64 code,.sl ip 0 n' (n'+d)]]=az (fH (ids.getD ic 0) (ids.getD x.it 0)) (.ptr 2 0::[.int .i64 l,.agg [.int .i64 code,.raw (eb (Ks g.d.k (some ⟨ids.getD ip 0,0,none⟩) n' (n'+d) f))]]):=rfl;rw[ca];refine vn.mono ?_;rintro v w' ⟨vv,s',F1',fn,ex,xs,tB,hvv,Va,⟨w1,w2,hK⟩,S2⟩;obtain⟨F',g1,g2,g3⟩:=abr hnp F1';refine⟨rk bl.length vv,xs,gd bl ic x.it g.d.k s'++ex,.gh u::.core (cB g.d.k s' F') (fn++fB)::rest,?_,?_,?_,hK F' (by rw[g1];exact w1) (by rw[g2];exact w2)⟩
        ·rw[<-hl,su];exact hvv.symm
        ·simp[gd,hl,tB]
        ·have H':=C8 H q2 q3 n4 s';have jK:=hp (gd bl ic x.it g.d.k s') (by simp[gd]);have hpp:(gd bl ic x.it g.d.k s').getD ip ir=fa n' d f:=by
          have:(gd bl ic x.it g.d.k s')[ip]?=some (fa n' d f):=by
           unfold gd;rw[eY n6,eY n5];exact hbp
          exact cR this
         rw[emp,rn H' hg,hpp]at jK;have Cs:(r.map λj=>aW ids (ids.getD j 0) ((gd bl ic x.it g.d.k s').getD j ir))=r.map λj=>aW ids (ids.getD j 0) (bl.getD j ir):=by
          unfold gd;refine afy ?_;intro j hj;have:=hr j hj;simp only[List.mem_cons,List.not_mem_nil,or_false,not_or]at this;omega
         rw[Cs]at jK;have ja:ids.length=(gd bl ic x.it g.d.k s').length:=by simp[gd,hl]
         have hw2:ez ids.length (gd bl ic x.it g.d.k s')=true:=by
          unfold gd;rw[<-hl]at qw l3;refine rp ?_ _ _ (rp ?_ _ _ qw)
          ·exact gH (Nat.zero_le _) _ (iJ s')
          ·simp only[ei,xK,Cq,cK,fR,Bool.and_eq_true,Nat.blt_eq,Bool.true_and,Bool.and_true];exact l3
         rw[aY _ _ _ _ ja,a_ _ _ hw2,fJ (ids':=xs) xs ex Va];rw[g3,<-afh]at S2;have S3:St ms w0 (lits (fH (ids.getD ic 0) (ids.getD x.it 0)) (fH (ids.getD ic 0) (ids.getD x.it 0)) (gz g.d.k s')++(lits xs xs ex++((F'.B++[aW ids (ids.getD ip 0) (fa n' d f)])++(fn++(fu u++((r.map λj=>aW ids (ids.getD j 0) (bl.getD j ir))++(fB++ak rest R))))))) w':=S2;refine S3.perm ?_;show List.Perm _ ((lits ids ids (gd bl ic x.it g.d.k s')++lits xs xs ex)++(fu u++((F'.B++(fn++fB))++ak rest R)));refine List.Perm.trans ?_ ((jK.symm.append_right _).append_right _);exact di λf=>by simp only[List.countP_append];omega
      ·exact hc.elim
     ·exact hc.elim
    ·exact hc.elim
   ·exact hc.elim
  ·exact hc.elim
 ·exact hc.elim
end Go.Proofs.YtlkpikfddnjilaaGreatDoor
