/- Part 7 of the proof. -/
import Derived.Test.YtddcipamdggcnaaGreatDoorCards
import Derived.Test.YtddcipamdggcnaaGreatDoorTie
import Derived.Lib.SmallJoins
import Derived.SevenTiedAt
import Derived.LaidMore
import Derived.Stop.Joined
import Derived.Test.YtddcipamdggcnaaGreatDoorM6
set_option linter.all false
set_option maxRecDepth 100000
set_option maxHeartbeats 4000000
noncomputable section
open Go.Proofs.Tryz
open Go.IntKind (u8 u16 u32 u64 i64)
open Bool renaming true->af,false->ag
open Go renaming Program->aG,Addr->aI,TypeId->aM,Value->ai,World->aj
open Go.Proofs.Tryz renaming checked->ago
open Go.Proofs.YtddcipamdggcnaaGreatDoor.Rows renaming laid_sidestick_sha_roots->agm
open Go.Value renaming okWide->DG
open Int renaming toNat_natCast->vn
open List renaming append_nil->cT,getElem?_eq_getElem->jY,mem_of_getElem?->sE,getD_eq_getElem?_getD->tV
open Nat renaming beq->aA,le_trans->ia,zero_le->oQ
open Option renaming some->aa,none->ae
open Prod.mk renaming injEq->bC
namespace Go.Proofs.YtddcipamdggcnaaGreatDoor
section
open Go Go.RowKit Go.BigFrame Sx Vx
variable{fr:Sd.aO->Nat×Sd.ax}
def PC (es:Nat->fK) (n:Nat) (bs:List j_):Prop:=∀j,j<n->∃b∈bs,(es j).x=b.x/\(es j).n=b.n/\(es j).c=b.c/\b.n<=120/\By b.f/\Sd.kr (es j).s.x
structure sr (fr:Sd.aO->Nat×Sd.ax) (tg tc:aM) (u:aj) (x:n5) (n:Nat) where
 p:Nat->Int
 m:Nat->Nat
 d:Nat->Nat
 hM:Made x p m
 mc:eT fr
 hp:mc.s.c.p=nP (jE 6 p m d) (Gc x u)
 Gm:mc.k.tg=tg
 pE:mc.k.tc=tc
 ok:oK mc.k mc.s mc.F mc.G
 es:Nat->fK
 bs:List j_
 ev:PC es n bs
 ex:Option aI
 ec:Nat
 et:Nat
 eu:List ai
 j:Nat
 hj:j<=n
structure TiS (fr:Sd.aO->Nat×Sd.ax) (tg tc:aM) (u:aj) (x:n5) (n:Nat) where
 w:sr fr tg tc u x n
 cH:w.j<n
 mc:eT fr
 hp:mc.s.c.p=nP (jE 6 w.p w.m w.d) (Gc x u)
 Gm:mc.k.tg=tg
 pE:mc.k.tc=tc
 ok:oK mc.k mc.s mc.F mc.G
 R:mc.R=w.mc.R
 t:Sd.ah
 tr:TR
 ht:mc.s=eU t
 len:t.aV.length<=10000
 i:Nat
 h:Int
 e:Int
 eb:0<=e/\e<=65535
 rp:Sd.mz mc.s.c.p (t.aV.drop i) h e
 fin:Sd.kO (t.aV.drop i) (h,e)=(t.c.t.aF,t.c.t.an)
def tdM (tr:TR) (s:Sd.ah) (i:Nat):List V:=match tr.v s i with|.agg l=>l|_=>[]
def afZ (tg:aM) (u:aj) (es:Nat->fK) (o n c:Nat) (pre:List ai) (X:(fq:Nat->fK)->(bs:List j_)->Option aI->Nat->Nat->List ai->Nat->Prop):Prop:=
 ∃Gn:Nat->fK,(jF es=jF Gn/\n=n/\(∀j,j<n->o=pre.length)/\n<=c/\(∃t,aa (wD tg)=aa (wD t))/\∀j,j<n->jc u (Gn j).x (Gn j).n (Gn j).c (dB u (Gn j).x))/\
  ∀(fq:Nat->fK) (bs:List j_) (x:Option aI) (c' Dl:Nat) (us:List ai),Ge u Gn fq (dp 60 n) bs->X fq bs x c' Dl us (dp 60 n)
def Yj (tg tc:aM) (R:VB) (m:eT fr):Prop:=aa (wD tg)=aa (b_ m.k)/\aa (Gb tc)=aa (gK m.k)/\aa R=aa m.R
def Yk (C:Sd.aL) (m:eT fr) (e:fK) (rest:List (LG fr)) (X:Sd.ah->TR->eT fr->Prop):Prop:=
 oK m.k m.s m.F m.G/\Sd.kr ⟨e.s.x.a,e.s.x.b,e.s.x.c,e.s.x.d⟩/\∃eb:iE,EvB e.kind e.src (.raw (.slice e.x e.n e.c)) rest eb/\
  ∀(t:Sd.ah),t=(Sd.fG.go C b9 ⟨m.s,fP m.G⟩ (iJ e.kind e.src eb ⟨e.s.valid,⟨e.s.x.a,e.s.x.b,e.s.x.c,e.s.x.d⟩,e.s.pW⟩ e.bad)).s->∀(r:TR) (m':eT fr),A0 m m' t (Sd.fG.go C b9 ⟨m.s,fP m.G⟩ (iJ e.kind e.src eb ⟨e.s.valid,⟨e.s.x.a,e.s.x.b,e.s.x.c,e.s.x.d⟩,e.s.pW⟩ e.bad)).r r->X t r m'
def Yl (j N:Nat):Prop:=0<=(j:Int)/\(j:Int)<(N:Int)
def evP (es:Nat->fK) (j N:Nat):Prop:=(j:Int).toNat<N/\∀i,(jF es i).length=10
def rcP (l:List Sd.Rec) (i:Nat):Prop:=(i:Int).toNat<l.length/\∀j,(lv l j).length=6
section
variable(C:Sd.aL) (tg tc:aM) (ty:BT) (u:aj) (x:n5) (f:Nat->Nat×Sd.ax) (o n c:Nat) (a:Option aI) (es:Nat->fK) (pre post:List ai)
def PD (y:sr fr tg tc u x (dp 60 n)) (h e:Int) (j:Int):List V:=[.ptr 11 0,.ptr 12 0,.int .i64 h,.int .i64 e,.eW 13 0 (dp 60 n) y.ec y.ex,.int .i64 j]
def Ym (y:sr fr tg tc u x (dp 60 n)):List V:=PD tg tc u x n y y.mc.s.c.t.aF y.mc.s.c.t.an y.j
def Kj (y:sr fr tg tc u x (dp 60 n)):List VB:=PB tg tc ty u x f n es pre post y.p y.m y.d y.mc.R++[lx y.et 10 (dp 60 n) (jF y.es) y.eu]
def PE (y:sr fr tg tc u x (dp 60 n)) (m:eT fr):List (LG fr):=[.bj u,.jr y.bs,.oH m]
def Yn (y:sr fr tg tc u x (dp 60 n)):List (LG fr):=PE tg tc u x n y y.mc
def axD:Lp (LG fr):=Ah (X:=sr fr tg tc u x (dp 60 n)) (λy=>dp 60 n-y.j) 179 14 [6,7,8,9,10,11] (Ym tg tc u x n) (Kj tg tc ty u x f n es pre post) (Yn tg tc u x n) (λ_=>rfl) (λ_=>kR) (λ_=>rfl)
abbrev ve (jv:Int):={z:TiS fr tg tc u x (dp 60 n) //(z.w.j:Int)=jv/\z.i<=z.t.aV.length}
def Yo (z:TiS fr tg tc u x (dp 60 n)) (h e:Int) (i:Int):List V:=[.ptr 11 0,.ptr 12 0,.int .i64 h,.int .i64 e,.eW 13 0 (dp 60 n) z.w.ec z.w.ex,.int .i64 z.w.j,.ptr 16 0,.int .i64 i]
def Yp (jv:Int) (z:ve (fr:=fr) tg tc u x n jv):List V:=Yo tg tc u x n z.1 z.1.h z.1.e z.1.i
def af0 (w:sr fr tg tc u x (dp 60 n)) (t:Sd.ah) (tr:TR):List VB:=Kj tg tc ty u x f n es pre post w++[tr.sB t,tr.rB t,⟨af,⟨48,(0,0)⟩,tdM tr t 14⟩]
def PF (jv:Int) (z:ve (fr:=fr) tg tc u x n jv):List VB:=af0 tg tc ty u x f n es pre post z.1.w z.1.t z.1.tr
def PG (jv:Int) (z:ve (fr:=fr) tg tc u x n jv):List (LG fr):=PE tg tc u x n z.1.w z.1.mc
def axE (jv:Int):Lp (LG fr):=Ah (X:=ve (fr:=fr) tg tc u x n jv) (λz=>z.1.t.aV.length-z.1.i) 179 17 [6,7,8,9,10,11,12,13] (Yp tg tc u x n jv) (PF tg tc ty u x f n es pre post jv) (PG tg tc u x n jv) (λ_=>rfl) (λ_=>kR) (λ_=>rfl)
def Yq:Nat->List V->Option (Lp (LG fr)):=λi w=>bif aA i 0 then aa (axD tg tc ty u x f n es pre post)else bif aA i 2 then(match nth w 11 with|.int .i64 jv=>aa (axE tg tc ty u x f n es pre post jv)|_=>ae)else ae
variable(K:V->Prop)
def axF (y w:sr fr tg tc u x (dp 60 n)) (h e:Int) (m:eT fr):Prop:=af=af/\xI (λy=>dp 60 n-y.j) (Ym tg tc u x n) (Kj tg tc ty u x f n es pre post) (Yn tg tc u x n) y (PD tg tc u x n w h e (i64.wrap ((w.j:Int)+1))) (Kj tg tc ty u x f n es pre post w) (PE tg tc u x n w m)
def Kk (jv:Int) (z:ve (fr:=fr) tg tc u x n jv) (h e:Int):Prop:=af=af/\xI (λz=>z.1.t.aV.length-z.1.i) (Yp tg tc u x n jv) (PF tg tc ty u x f n es pre post jv) (PG tg tc u x n jv) z (Yo tg tc u x n z.1 h e (i64.wrap ((z.1.i:Int)+1))) (PF tg tc ty u x f n es pre post jv z) (PG tg tc u x n jv z)
def tR (t:Bool) (N:Prop):Prop:=cond t (K (.bool ag)) N
def A8 (t s:Bool) (N:Prop):Prop:=cond t (tR K s N) N
def af1 (q:Sd.Rec) (e:Int) (EN:Int->Int->Prop):Prop:=cond (!(e==65535)) (tR K (q.an !=i64.wrap (e+1)) (EN q.source (i64.wrap (e+1)))) (tR K (q.an !=e) (EN q.source e))
def axG (q:Sd.Rec) (N:Prop):Prop:=cond (q.source==4) (A8 K (q.how !=6) (q.how !=5) N) N
def af2 (pl:List V) (q:Sd.Rec) (h e:Int) (EN:Int->Int->Prop):Prop:=
 tR K (q.source==h) (tR K (decide (q.source<0)) (tR K (decide (q.source>4)) (A8 K (e==65535) (q.how !=6) (tR K (decide (q.how<1)) (tR K (decide (q.how>6)) (A8 K (q.how==6) (q.source !=4) (A8 K (q.how==4) (q.source !=0)
  (A8 K (q.how==3) (!(Sd.eL (nP pl A6) q.source h)) (axG K q (af1 K q e EN))))))))))
def Yr (y:sr fr tg tc u x (dp 60 n)) (z:ve (fr:=fr) tg tc u x n (y.j:Int)):Prop:=
 let q:=z.1.t.aV.getD (z.1.i:Int).toNat default
 let N:=z.1.t.aV.length
 cond (decide ((z.1.i:Int)<(N:Int))) (Yl z.1.i N/\rcP z.1.t.aV z.1.i/\cond (q.kind !=8) (tR K (q.an !=z.1.e) (Kk tg tc ty u x f n es pre post _ z z.1.h z.1.e))
  (af2 K (jE 6 z.1.w.p z.1.w.m z.1.w.d) q z.1.h z.1.e (Kk tg tc ty u x f n es pre post _ z)))
 (Yj tg tc z.1.w.mc.R z.1.mc/\z.1.mc.s.c.p.queue=z.1.mc.k.most/\∀(za:Option aI) (zc zt:Nat) (zu:List ai),tR K (z.1.mc.s.c.t.aF !=z.1.h) (tR K (z.1.mc.s.c.t.an !=z.1.e) (A8 K (decide (z.1.mc.s.c.t.offer>=0)) (z.1.mc.s.c.t.offer==z.1.h)
  (axF tg tc ty u x f n es pre post y z.1.w z.1.h z.1.e z.1.mc))))
def axH (y:sr fr tg tc u x (dp 60 n)):Prop:=
 let N:=dp 60 n
 Yl y.j N/\evP y.es y.j N/\Yj tg tc y.mc.R y.mc/\Yk C y.mc (y.es (y.j:Int).toNat) ([.jr y.bs]++[]) λt tr m'=>
  (af=af/\xH (Yp tg tc u x n (y.j:Int)) (PF tg tc ty u x f n es pre post (y.j:Int)) (PG tg tc u x n (y.j:Int)) [.ptr 11 0,.ptr 12 0,.int .i64 y.mc.s.c.t.aF,.int .i64 y.mc.s.c.t.an,.eW 13 0 (dp 60 n) y.ec y.ex,.int .i64 y.j,.ptr 16 0,.int .i64 0] (af0 tg tc ty u x f n es pre post y t tr) (PE tg tc u x n y m'))/\
   ∀(z:ve (fr:=fr) tg tc u x n (y.j:Int)) (g:Nat->ai),Yr tg tc ty u x f n es pre post K y z
def thX:Prop:=afY (fr:=fr) tg tc ty u x f n es pre post λp m d hM p2 k F hN v1 v2 ic it b=>afZ tg u es o n c pre λfq bs ex ec et eu N=>
 (af=af/\xH (Ym (fr:=fr) tg tc u x n) (Kj tg tc ty u x f n es pre post) (Yn tg tc u x n) [.ptr 11 0,.ptr 12 0,.int .i64 4,.int .i64 (p 55),.eW 13 0 (dp 60 n) ec ex,.int .i64 0] (PB tg tc ty u x f n es pre post p m d (A7 k p2 F ic it b).R++[lx et 10 (dp 60 n) (jF fq) eu]) [.bj u,.jr bs,.oH (A7 k p2 F ic it b)])/\
  ∀(y:sr fr tg tc u x (dp 60 n)) (g:Nat->ai),cond (decide ((y.j:Int)<(dp 60 n:Nat))) (axH C tg tc ty u x f n es pre post K y) (K (.bool af))
def PH (fr:Sd.aO->Nat×Sd.ax) (P:aG) (C:Sd.aL):List (bK (LG fr)):=[⟨25,ag,Pj⟩,⟨23,ag,Pz⟩,⟨10,ag,Xv⟩,⟨11,af,Pv P⟩,⟨13,ag,F5 (Xp C)⟩,⟨14,af,F5 Kc⟩,⟨26,af,Kd⟩]
def axI:br (Gd prog gS (PH fr prog C) BS Ec (Yq (fr:=fr) tg tc ty u x f n es pre post)) 60 7 [.agg [.dO ⟨x.q,f⟩ x.ka x.kn x.kc],.eW 2 o n c a] [wD tg,Gb tc,mB ty n es pre post] [.bj u] (λv _ _=>K v)=thX (fr:=fr) C tg tc ty u x f o n c es pre post K:=kR
end
def axJ {k:LK} {p2:Sd.aU} {F:ba fr (a9 k (mA p2))} (hC:eV k (mA p2)) (hm:k.most=p2.queue) (hp:Dk k) (v1:cj=F.vs) (v2:cj=F.vr) (ic it:Nat) (b:Nat->Nat):oK (fr:=fr) (A7 k p2 F ic it b).k (A7 k p2 F ic it b).s (A7 k p2 F ic it b).F (A7 k p2 F ic it b).G:=
 ⟨by show eV k (bO (mA p2));rw[nT];exact hC,hm.symm,hp,v1,v2,λi _ j=>⟨Int.le_refl 0,by show(0:Int)<=255;decide⟩,λi _=>oQ 36⟩
section
variable{tg tc:aM} {ty:BT} {u:aj} {x:n5} {f:Nat->Nat×Sd.ax} {o n c:Nat} {a:Option aI} {es:Nat->fK} {pre post:List ai}
def axK {Q:(p:Nat->Int)->(m d:Nat->Nat)->Made x p m->(p2:Sd.aU)->(k:LK)->(F:ba fr (a9 k (mA p2)))->J2 (jE 6 p m d) (Gc x u) tg tc p2 k->cj=F.vs->cj=F.vr->Nat->Nat->(Nat->Nat)->Prop} (hr:XI x u)
 (h:∀p m d hM p2 k F hN v1 v2 ic it b,eV k (mA p2)->Q p m d hM p2 k F hN v1 v2 ic it b):afY tg tc ty u x f n es pre post Q:=by
 refine⟨hr,λp m d hM=>?_⟩;have hb:∀j,j<4->1<=m j/\m j<=64:=λj hj=>by rw[hM.n j];exact avn _
 obtain⟨h1,h2⟩:=av1 (m:=6) (d:=d) hM.I hM.o hb;have US:Pb (jE 6 p m d) (n4 m):=⟨h1.code,λj hj=>by
  rw[<-h1.n j hj]
  match j,hj with
  |0,_=>rfl
  |1,_=>rfl
  |2,_=>rfl
  |3,_=>rfl
  |j+4,h=>exact absurd h oM,h1.k⟩
 refine⟨US,λp2 k F hN v1 v2=>⟨⟨rfl,by rw[nT],rfl,rfl⟩,λic it b=>⟨⟨_,rfl⟩,h p m d hM p2 k F hN v1 v2 ic it b ?_⟩⟩⟩;exact av2 hN (h2 _) (λj hj=>by rw[Pf _ _ _ _ hj];exact hb j hj)
end
structure Kl (u:aj) (es:Nat->fK) (o n:Nat) (pre:List ai):Prop where
 po:∀j,j<n->o=pre.length
 rd:∀j,j<n->jc u (es j).x (es j).n (es j).c (dB u (es j).x)
 x4:∀j,Sd.kr (es j).s.x
def Kl.cp {u:aj} {es fq:Nat->fK} {o n N:Nat} {pre:List ai} {bs:List j_} (h:Kl u es o n pre) (hF:Ge u es fq N bs):PC fq N bs:=by
 intro j hj;obtain⟨b,q1,q2,q3,q4⟩:=hF.each j hj;refine⟨b,sE q1,by rw[q2];rfl,by rw[q2];rfl,by rw[q2];rfl,by rw[q3];unfold dp;omega,by rw[q4];exact atH u _,by rw[q2];exact h.x4 j⟩
def Kl.few {tg:aM} {u:aj} {es:Nat->fK} {o n c:Nat} {pre:List ai} {X:(fq:Nat->fK)->(bs:List j_)->Option aI->Nat->Nat->List ai->Nat->Prop} (h:Kl u es o n pre) (hn:n<=c)
 (hX:∀fq bs x c' Dl us,Ge u es fq (dp 60 n) bs->X fq bs x c' Dl us (dp 60 n)):afZ tg u es o n c pre X:=⟨es,⟨rfl,rfl,h.po,hn,⟨tg,rfl⟩,h.rd⟩,hX⟩
def af3 {j N:Nat} (h:j<N):Yl j N:=⟨oM,oM⟩
def af4 (j:Nat):((j:Int)).toNat=j:=vn j
def af5 {tg tc:aM} {m:eT fr} {R:VB} (h1:m.k.tg=tg) (h2:m.k.tc=tc) (h3:m.R=R):Yj tg tc R m:=by
 subst h1 h2 h3;exact⟨rfl,rfl,rfl⟩
def axL {m:eT fr} {es:Nat->fK} {n j:Nat} {bs:List j_} {rest:List (LG fr)} {X:Sd.ah->TR->eT fr->Prop} (hm:oK m.k m.s m.F m.G) (he:PC es n bs) (hj:j<n) (hb:LG.jr bs∈rest)
 (hX:∀(eb:iE) (t:Sd.ah),By eb.f->(t=(Sd.fG.go (aP aY) b9 ⟨m.s,fP m.G⟩ (iJ (es j).kind (es j).src eb (es j).s (es j).bad)).s)->∀(r:TR) (m':eT fr),A0 m m' t (Sd.fG.go (aP aY) b9 ⟨m.s,fP m.G⟩ (iJ (es j).kind (es j).src eb (es j).s (es j).bad)).r r->X t r m'):Yk (aP aY) m (es j) rest X:=by
 obtain⟨b,jM,e1,e2,e3,e4,e5,e6⟩:=he j hj;refine⟨hm,e6,b.red,⟨λ_ _=>?_,.inr ⟨bs,hb,b,jM,rfl⟩,e5,ia e4 dC⟩,λt ht r m' hR=>hX b.red t e5 ht r m' hR⟩;rw[e1,e2,e3];rfl
def axM {m:eT fr} {es:Nat->fK} {n j:Nat} {bs:List j_} {rest:List (LG fr)} {X:Sd.ah->TR->eT fr->Prop} (hm:oK m.k m.s m.F m.G) (he:PC es n bs) (hj:j<n) (hb:LG.jr bs∈rest)
 (hX:∀(eb:iE) (t:Sd.ah),(t=(Sd.fG.go (aP aY) b9 ⟨m.s,fP m.G⟩ (iJ (es j).kind (es j).src eb (es j).s (es j).bad)).s)->∀(r:TR) (m':eT fr),A0 m m' t (Sd.fG.go (aP aY) b9 ⟨m.s,fP m.G⟩ (iJ (es j).kind (es j).src eb (es j).s (es j).bad)).r r->X t r m'):Yk (aP aY) m (es j) rest X:=
 axL hm he hj hb λeb t _ ht r m' hR=>hX eb t ht r m' hR
def A0.kO {m m':eT fr} {ev:Sd.Ev} {t:Sd.ah} {rr:Nat->Sd.Rest} {r:TR} (h:A0 m m' t rr r) (ht:t=(Sd.fG.go (aP aY) b9 ⟨m.s,fP m.G⟩ ev).s) (hm:oK m.k m.s m.F m.G):m'.s.c.p=m.s.c.p/\Sd.mz m.s.c.p t.aV m.s.c.t.aF m.s.c.t.an/\Sd.kO t.aV (m.s.c.t.aF,m.s.c.t.an)=(t.c.t.aF,t.c.t.an):=by
 have hg:=Sd.auR (crc:=b9) Db ⟨m.s,fP m.G⟩ ev hm.ok.i;rw[<-ht]at hg;refine⟨?_,hg.2.2.1,hg.2.2.2⟩;rw[h.s];exact hg.2.1
def vf {K:V->Prop} {t:Bool} {N:Prop} (h:t=ag) (hN:N):tR K t N:=by subst h;exact hN
def Gp {K:V->Prop} {t s:Bool} {N:Prop} (h:t=af->s=ag) (hN:N):A8 K t s N:=by
 unfold A8;cases t with
 |false=>exact hN
 |true=>exact vf (h rfl) hN
def getD_drop {l:List Sd.Rec} {i:Nat} (h:i<l.length):l.drop i=l.getD i default::l.drop (i+1):=by
 rw[List.drop_eq_getElem_cons h,tV,jY h];rfl
section
variable{tg tc:aM} {ty:BT} {u:aj} {x:n5} {f:Nat->Nat×Sd.ax} {o n c:Nat} {a:Option aI} {es:Nat->fK} {pre post:List ai} {K:V->Prop}
def Ys {jv:Int} (z:ve (fr:=fr) tg tc u x n jv) (cH:z.1.i<z.1.t.aV.length) {h e:Int} (eb:0<=e/\e<=65535) (rp:Sd.mz z.1.mc.s.c.p (z.1.t.aV.drop (z.1.i+1)) h e) (fin:Sd.kO (z.1.t.aV.drop (z.1.i+1)) (h,e)=(z.1.t.c.t.aF,z.1.t.c.t.an)):Kk tg tc ty u x f n es pre post jv z h e:=by
 obtain⟨z,hz,hle⟩:=z;have hlen:=z.len;refine⟨rfl,⟨⟨z.w,z.cH,z.mc,z.hp,z.Gm,z.pE,z.ok,z.R,z.t,z.tr,z.ht,z.len,z.i+1,h,e,eb,rp,fin⟩,hz,cH⟩,by show z.t.aV.length-(z.i+1)<z.t.aV.length-z.i;have:z.i<z.t.aV.length:=cH;omega,?_,rfl,rfl⟩;show Yo tg tc u x n z h e (i64.wrap ((z.i:Int)+1))=_;have ay7:z.i<z.t.aV.length:=cH;rw[pH oM];rfl
def axN {jv:Int} (z:ve (fr:=fr) tg tc u x n jv) (cH:z.1.i<z.1.t.aV.length) {q:Sd.Rec} (heb:0<=z.1.e/\z.1.e<=65535) (l0:q.an=Sd.qF z.1.e) (rp:Sd.mz z.1.mc.s.c.p (z.1.t.aV.drop (z.1.i+1)) q.source (Sd.qF z.1.e)) (fin:Sd.kO (z.1.t.aV.drop (z.1.i+1)) (q.source,Sd.qF z.1.e)=(z.1.t.c.t.aF,z.1.t.c.t.an)):
 af1 K q z.1.e (Kk tg tc ty u x f n es pre post jv z):=by
 refine aJ (λh1=>?_) (λh1=>?_)
 ·have cL:z.1.e≠65535:=by simpa using h1
  have hr:Sd.qF z.1.e=z.1.e+1:=by unfold Sd.qF;rw[if_neg cL]
  have hw:i64.wrap (z.1.e+1)=z.1.e+1:=pH oM;rw[hr]at l0 rp fin;rw[hw];exact vf (by rw[l0];simp) (Ys z cH oM rp fin)
 ·have he:z.1.e=65535:=by simpa using h1
  have hr:Sd.qF z.1.e=z.1.e:=by unfold Sd.qF;rw[if_pos he,he]
  rw[hr]at l0 rp fin;exact vf (by rw[l0];simp) (Ys z cH heb rp fin)
def axO {jv:Int} (z:ve (fr:=fr) tg tc u x n jv) (cH:z.1.i<z.1.t.aV.length) {q:Sd.Rec} (hc:Sd.Xf z.1.mc.s.c.p q z.1.h z.1.e) (rp:Sd.mz z.1.mc.s.c.p (z.1.t.aV.drop (z.1.i+1)) q.source (Sd.qF z.1.e)) (fin:Sd.kO (z.1.t.aV.drop (z.1.i+1)) (q.source,Sd.qF z.1.e)=(z.1.t.c.t.aF,z.1.t.c.t.an)):
 af2 K (jE 6 z.1.w.p z.1.w.m z.1.w.d) q z.1.h z.1.e (Kk tg tc ty u x f n es pre post jv z):=by
 have e1:=hc.ne;have e2:=hc.src;have e3:=hc.how;have hE:=axN (ty:=ty) (f:=f) (es:=es) (pre:=pre) (post:=post) (K:=K) z cH z.1.eb hc.ep rp fin;refine vf (by simpa using e1) (vf (by simp;omega) (vf (by simp;omega) (Gp (λh=>?_) (vf (by simp;omega) (vf (by simp;omega) (Gp (λh=>?_) (Gp (λh=>?_) (Gp (λh=>?_) (aJ (λh=>Gp (λh2=>?_) hE) (λ_=>hE))))))))))
 ·have:=hc.full (by simpa using h);simpa using this
 ·have:=hc.safe (by simpa using h);simpa using this
 ·have:=hc.sT (by simpa using h);simpa using this
 ·have:=hc.auL (by simpa using h);rw[z.1.hp]at this;have e:Sd.eL (nP (jE 6 z.1.w.p z.1.w.m z.1.w.d) A6) q.source z.1.h=Sd.eL (nP (jE 6 z.1.w.p z.1.w.m z.1.w.d) (Gc x u)) q.source z.1.h:=rfl;rw[e,this];rfl
 ·have h6:q.how≠6:=by simpa using h2
  rcases hc.auM (by simpa using h)with h7|h7
  ·exact absurd h7 h6
  ·simpa using h7
def axP (y:sr fr tg tc u x (dp 60 n)) (z:ve (fr:=fr) tg tc u x n (y.j:Int)):Yr tg tc ty u x f n es pre post K y z:=by
 have hle:=z.2.2;have hi:((z.1.i:Nat):Int).toNat=z.1.i:=af4 _;unfold Yr;rw[hi];refine aJ (λh1=>?_) (λh1=>?_)
 ·have cH:z.1.i<z.1.t.aV.length:=by simpa using h1
  have hd:=getD_drop cH;have zk:=z.1.rp;have qI:=z.1.fin;rw[hd]at zk qI;generalize z.1.t.aV.getD z.1.i default=q at zk qI⊢;refine⟨af3 cH,⟨by rw[hi];exact cH,λj=>rfl⟩,?_⟩;unfold Sd.mz at zk;unfold Sd.kO at qI;refine aJ (λh2=>?_) (λh2=>?_)
  ·have hk:q.kind≠8:=by simpa using h2
   rw[if_neg hk]at zk qI;exact vf (by rw[zk.1];simp) (Ys z cH z.1.eb zk.2 qI)
  ·have hk:q.kind=8:=by simpa using h2
   rw[if_pos hk]at zk qI;exact axO z cH zk.1 zk.2 qI
 ·have fh:z.1.i=z.1.t.aV.length:=by
   have:¬z.1.i<z.1.t.aV.length:=by simpa using h1
   omega
  have qI:=z.1.fin;rw[fh,List.drop_length]at qI;have qI:(z.1.h,z.1.e)=(z.1.t.c.t.aF,z.1.t.c.t.an):=qI;simp only[bC]at qI;have ht:=z.1.ht;have q1:z.1.mc.s.c.t.aF=z.1.h:=by rw[ht];exact qI.1.symm
  have q2:z.1.mc.s.c.t.an=z.1.e:=by rw[ht];exact qI.2.symm
  refine⟨af5 z.1.Gm z.1.pE z.1.R,z.1.ok.most,λza zc zt zu=>?_⟩;refine vf (by rw[q1];simp) (vf (by rw[q2];simp) (Gp (λh2=>?_) ?_))
  ·have h3:z.1.mc.s.c.t.offer>=0:=by simpa using h2
   rcases z.1.ok.ok.i.tok.offer with h4|⟨_,_,h4,_⟩
   ·omega
   ·rw[q1]at h4;simpa using h4
  ·have hj:z.1.w.j=y.j:=by have:=z.2.1;omega
   have hw:=z.1.cH;have h60:dp 60 n<=60:=by unfold dp;omega
   refine⟨rfl,⟨z.1.w.p,z.1.w.m,z.1.w.d,z.1.w.hM,z.1.mc,z.1.hp,z.1.Gm,z.1.pE,z.1.ok,z.1.w.es,z.1.w.bs,z.1.w.ev,z.1.w.ex,z.1.w.ec,z.1.w.et,z.1.w.eu,z.1.w.j+1,hw⟩,by show dp 60 n-(z.1.w.j+1)<dp 60 n-y.j;omega,?_,?_,rfl⟩
   ·rw[pH oM];show PD tg tc u x n z.1.w z.1.h z.1.e ((z.1.w.j:Int)+1)=PD tg tc u x n z.1.w z.1.mc.s.c.t.aF z.1.mc.s.c.t.an _;rw[q1,q2];rfl
   ·show PB tg tc ty u x f n es pre post z.1.w.p z.1.w.m z.1.w.d z.1.w.mc.R++_=PB tg tc ty u x f n es pre post z.1.w.p z.1.w.m z.1.w.d z.1.mc.R++_;rw[z.1.R]
def axQ (hr:XI x u) (hn:n<=c) (hE:Kl u es o n pre) (hK:K (.bool af)):thX (fr:=fr) (aP aY) tg tc ty u x f o n c es pre post K:=by
 refine axK hr λp m d hM p2 k F hN v1 v2 ic it b hC=>hE.few hn λfq bs ex ec et eu hF=>⟨⟨rfl,⟨p,m,d,hM,A7 k p2 F ic it b,hN.eq,hN.tg,hN.tc,axJ hC hN.most hN.qq v1 v2 ic it b,fq,bs,hE.cp hF,ex,ec,et,eu,0,oQ _⟩,?_,rfl,rfl⟩,?_⟩
 ·have h55:p2.i 55=p 55:=by rw[hN.eq];exact afp 6 p m d (i:=55) dC rfl
  show[V.ptr 11 0,.ptr 12 0,.int .i64 4,.int .i64 (p 55),.eW 13 0 (dp 60 n) ec ex,.int .i64 0]=[V.ptr 11 0,.ptr 12 0,.int .i64 4,.int .i64 (p2.i 55),.eW 13 0 (dp 60 n) ec ex,.int .i64 0];rw[h55]
 intro y g;refine aJ (λe=>?_) (λ_=>hK);have cH:y.j<dp 60 n:=by simpa using e
 have AY:=af4 y.j;refine⟨af3 cH,⟨by rw[AY];exact cH,λi=>rfl⟩,af5 y.Gm y.pE rfl,?_⟩;rw[AY];refine axM y.ok y.ev cH sP λeb t ht r m' hR=>⟨⟨rfl,?_⟩,λz g=>axP y z⟩;obtain⟨w1,w2,w3⟩:=hR.kO ht y.ok;have hI:=y.ok.ok.i;have he:=hI.tok.an;have hpe:=hI.p.an;refine⟨⟨⟨y,cH,m',w1.trans y.hp,by rw[hR.k];exact y.Gm,by rw[hR.k];exact y.pE,hR.ok,hR.R,t,r,hR.s,hR.nR,0,y.mc.s.c.t.aF,y.mc.s.c.t.an,⟨oM,he.2⟩,by rw[w1];exact w2,w3⟩,rfl,oQ _⟩,rfl,rfl,rfl⟩
end
end
section
open Go Go.RowKit Go.BigFrame Sx Vx
def af6:aH prog gS (PH oL prog (aP aY)):=
 have n:∀{c:dk (LG oL)},(ag=af->jo c):=λe=>by cases e
 aH.cons ⟨axq,n⟩ (aH.cons ⟨axA,n⟩ (aH.cons ⟨avA,n⟩ (aH.cons ⟨aw6,λ_=>aw8⟩ (aH.cons ⟨afb (avk afF),n⟩ (aH.cons ⟨afb (axk afF),λ_=>axj⟩ (aH.cons ⟨axh,λ_=>axi⟩ aH.nil))))))
def axR {W:aj} {tg tc:aM} (hG:W.heap[0]?=aa (.cells (aD .u32 64 c_) tg (0,0))) (hC:W.heap[1]?=aa (.cells #[.bool ag,.bool ag,.bool ag,.bool ag,.bool ag,.bool ag,.bool ag,.bool ag,.bool ag,.bool ag,.bool af,.bool af] tc (0,0)))
 (q:Nat->Int) (ka:Nat->Option aI) (kn kc:Nat->Nat) (hr:∀j,j<4->jc W (ka j) (kn j) (kc j) (dB W (ka j))) {v:ai} {es:Nat->fK} {i o n c:Nat} {a:Option aI} {ty:BT} {pre post:List ai} (hR:A4 W v 10 (jF es) i o n c a ty pre post)
 (zj:∀j,j<n->jc W (es j).x (es j).n (es j).c (dB W (es j).x)) (hx4:∀j,Sd.kr (es j).s.x):
 aX prog 7 #[.agg (sW ⟨q,λ_=>(0,λ_=>0)⟩ ka kn kc).toArray,v] W λv w1=>v=.bool af/\Ch [] W w1:=by
 have S:=awM (fr:=oL) hG hC (i:=i) (b:=mB ty n es pre post) rfl rfl (by
  rw[hR.at_];simp only[mB,ak,cl,cT])
 have cV:br (Gd prog gS (PH oL prog (aP aY)) BS Ec (Yq (fr:=oL) tg tc ty W ⟨q,ka,kn,kc⟩ (λ_=>(0,λ_=>0)) n es pre post)) 60 7 [.agg [.dO ⟨q,λ_=>(0,λ_=>0)⟩ ka kn kc],.eW 2 o n c a] [wD tg,Gb tc,mB ty n es pre post] [.bj W] (λv _ _=>v=.bool af):=by
  rw[axI (x:=⟨q,ka,kn,kc⟩)];exact axQ ⟨hr 0 dC,hr 1 dC,hr 2 dC,hr 3 dC⟩ hR.le ⟨hR.po,zj,hx4⟩ rfl
 have cN:(aE [0,1,i] [.agg [.dO ⟨q,λ_=>(0,λ_=>0)⟩ ka kn kc],.eW 2 o n c a]).toArray=#[.agg (sW ⟨q,λ_=>(0,λ_=>0)⟩ ka kn kc).toArray,v]:=by
  rw[hR.v];simp only[aE,den,ak,cl,cT];rfl
 rw[<-cN];refine(eZ (C:=Gd prog gS (PH oL prog (aP aY)) BS Ec (Yq (fr:=oL) tg tc ty W ⟨q,ka,kn,kc⟩ (λ_=>(0,λ_=>0)) n es pre post)) af6.T af6.Q 60 (awN i) rfl S cV).mono ?_;rintro v w' ⟨x,more,bl',ch',rfl,h1,S',rfl⟩;exact⟨rfl,S'.ch⟩
end
end Go.Proofs.YtddcipamdggcnaaGreatDoor
namespace Go.Proofs.YtddcipamdggcnaaGreatDoor.topHolders
open Go.ChangeShapes Go.WideShapes Go.ChangeAt Go.RowKit Go.Joins Sd Sx
def opened (H:Type) (enc:aM×ai->H) (W:aj) (args:Array ai) (ds gs:List (DataW H)) (before:List MemPlace)
 (Kn:∀(j:Nat) t v,Tryz.f7.params[j]?=aa t->args[j]?=aa v->DG prog W .any 0 t v)
 (hW:DataW.Whole enc prog Tryz.f7.params.toList Rows.topHoldersSpec.vars ag W args.toList ds gs before) (hL:laidMetH prog X7 W):
 Rows.topHoldersSpec.fn H (ds++gs)={results:=[.lit (.bool af)],args:=ds,vars:=[]}/\Calls prog 7 args W λe W'=>e=.returned (.bool af)/\Below W.heap.size W W':=by
 obtain⟨p,q,hA,hV,rfl,A5,vK⟩:=hW;obtain⟨tG,hG⟩:=awP hL;obtain⟨tC,hC⟩:=awZ hL;rw[Tryz.params7]at hA Kn;obtain⟨v0,v1,d0,d1,p0,p1,cN,rfl,_,Pp,Pr⟩:=trodAll_two hA;obtain rfl:args=#[v0,v1]:=by cases args;simp_all
 obtain⟨rfl,rfl⟩:=trodVars_none hV;obtain⟨pq,ka,kn,kc,rfl,hk⟩:=aw0 (Kn 0 28 v0 rfl rfl) (λn=>by obtain⟨fuel,h⟩:=Pp;exact Sx.J6 n h);have lu:=awS Tryz.underlying29 rfl (Kn 1 29 v1 rfl rfl);have zj:∀k,Sx.Rd prog W k 29 [v1]:=λk=>by
  obtain⟨a,m,c,rfl,_,_⟩:=X8 Tryz.underlying29 lu;obtain⟨fuel,h2⟩:=Pr;exact Sx.J6 k h2
 obtain⟨es,i,o,n,c,a,ty,pre,post,hR,hO,hx⟩:=aw1 lu zj hG;exact⟨rfl,Sx.agr (axR hG hC pq ka kn kc hk hR hO hx)⟩
def own:ownKnob prog.godebug=ae:=kR
def PI:List (String×DataW Unit):=[("sidestick/gate.commands",Rows.laid_sidestick_gate_commands),("sidestick/sha.roots",agm)]
def axS (os:Os) (args:Array ai):laidMetH prog PI ((World.doorLaid prog 400 os).forCall (λ_ _=>0) ⟨#[],args,[]⟩).memory:=
 laidMetH_of_parts3 (fuel:=8) (laidMet_of_run' 8 kR kR) kR kR
def lifted (os:Os) (started:os.Started) (H:Type) (enc:aM×ai->H):
 ReturnsInHanded {} ago os 7 .any (λw args=>(Rows.topHoldersSpec.pre enc prog Tryz.f7 [] ag w args/\laidMetH prog PI w)/\sizedMet enc prog Tryz.f7 (OpenSpec.ofChange Rows.topHoldersSpec) ag w args)
  (Rows.topHoldersSpec.post enc prog Tryz.f7 ag af ag ag):=by
 refine returnsInHanded_of_change_and (C:=ago) (X:=λw _=>laidMetH prog PI w) (λ_ _ _ hh h=>h.of_heap hh) own started kR Tryz.func7
  (ChangeSpec.witness_shaped (enc:=enc) (C:=ago) (os:=os) (X:=λw _=>laidMetH prog PI w) ag (World.doorLaid prog 400 os) #[.agg #[.int .i64 0,.int .i64 0,.int .i64 0,.int .i64 0,.int .i64 0,.slice ae 0 0,.slice ae 0 0,.slice ae 0 0,.slice ae 0 0,.int .i64 0,.int .i64 0,.int .i64 0,.int .i64 0,.int .i64 0,.int .i64 0,.int .i64 0,.int .i64 0,.int .i64 0,.int .i64 0,.int .i64 0,.int .i64 0,.int .i64 0,.int .i64 0,.int .i64 0,.int .i64 0,.int .i64 0,.int .i64 0,.int .i64 0,.int .i64 0,.int .i64 0,.int .i64 0,.int .i64 0,.int .i64 0,.int .i64 0,.int .i64 0,.int .i64 0,.int .i64 0,.int .i64 0,.int .i64 0,.int .i64 0,.int .i64 0,.int .i64 0,.int .i64 0,.int .i64 0,.int .i64 0,.int .i64 0,.int .i64 0,.int .i64 0,.int .i64 0,.int .i64 0,.int .i64 0,.int .i64 0,.int .i64 0,.int .i64 0,.int .i64 0,.int .i64 0],.slice ae 0 0] 8 rfl (World.shaped_of_RefB kR kR) kR kR kR (axS os _)) ?_
 intro W base args ds gs before Kn hW _ _ hL _;obtain⟨hs,hc⟩:=opened H enc W args ds gs before Kn hW hL;refine hc.mono λe W' ⟨he,hb⟩=>⟨_,he,?_⟩;exact awQ kR kR rfl kR Tryz.underlying4 hs hW hb
end Go.Proofs.YtddcipamdggcnaaGreatDoor.topHolders
