/- Part 7 of the proof. -/
import Derived.Test.YtddcipamdggcnaaGreatDoorCards
import Derived.Test.YtddcipamdggcnaaGreatDoorTie
import Derived.Lib.SmallJoins
import Derived.SevenTiedAt
import Derived.LaidMore
import Derived.Stop.Joined
import Derived.Test.YtddcipamdggcnaaGreatDoorN6
set_option linter.all false
set_option maxRecDepth 100000
set_option maxHeartbeats 4000000
noncomputable section
open Go.Proofs.Tryz
open Go.IntKind (u8 u16 u32 u64 i64)
open Bool renaming true->af,false->ag
open Go renaming Program->aG,Addr->aI,TypeId->aM,Value->ai,World->aj
open Go.Proofs.Tryz renaming checked->ago
open Go.Proofs.YtddcipamdggcnaaGreatDoor.Rows renaming laid_sidestick_sha_roots->agm
open Go.Value renaming okWide->DG
open List renaming append_nil->cT
open Nat renaming beq->aA,le_refl->cY,add_zero->lA,zero_le->oQ
open Option renaming some->aa,none->ae
namespace Go.Proofs.YtddcipamdggcnaaGreatDoor
section
open Go Go.RowKit Go.BigFrame Sx Vx
variable{fr:Sd.aO->Nat×Sd.ax}
def bytsB:VB:=⟨af,⟨5,(0,0)⟩,[.int .u8 165,.int .u8 1,.int .u8 0]⟩
def oddL (kd sr:Int) (v:V):List V:=[.int .i64 kd,.int .i64 sr,v,.bool af,.int .i64 0,.int .i64 0,.int .i64 0,.int .i64 0,.bool ag,.bool af]
def oddB (kd sr:Int) (v:V):VB:=⟨af,⟨38,(0,0)⟩,oddL kd sr v⟩
def nilB:V:=.raw (.slice ae 0 0)
def xB (x0 x1:Int):VB:=⟨af,⟨30,(0,0)⟩,[.int .i64 x0,.int .i64 x1]⟩
def eqG (f g:Nat->Int):Nat->Nat->Bool
 |0,_=>af
 |n+1,i=>f i==g i&&eqG f g n (i+1)
def actG (s t:Sd.ah):Bool:=s.c.mode==t.c.mode&&(s.c.pt.cls==t.c.pt.cls&&(x4E s.c.pt.now t.c.pt.now&&(labE s.c.gF t.c.gF&&(labE s.c.pt.cd t.c.pt.cd&&af))))
def siM (s:Sd.ah):SiD:=⟨s.c.t.aF,s.c.t.an,s.c.t.offer,s.c.mode,s.c.gF,s.c.pt,(dX s.c.aq).on 0,(dX s.c.aq).on 1,(dX s.c.aq).on 2,(dX s.c.aq).on 3,(dX s.c.aq).on 4,(dX s.c.aq).role 0,(dX s.c.aq).role 1,(dX s.c.aq).role 2,(dX s.c.aq).role 3,(dX s.c.aq).role 4,s.c.t.bad⟩
def SameM (s t:Sd.ah):Prop:=siM s=siM t/\s.c.q.length=s.c.q.length/\t.c.q.length=s.c.q.length/\t.c.q.length=s.c.q.length/\s.c.q.length<=1000000/\pJ t.c.q=pJ s.c.q/\∃q,pJ s.c.q=ntG q
def Wts (G:dQ):Prop:=∀i,i<3->(Sd.eg b9 (G.r i).n (G.r i).f).kind=0
structure NoS (fr:Sd.aO->Nat×Sd.ax) (tg tc:aM) (u:aj) (x:n5) (n:Nat) (a:Bool) where
 p:Nat->Int
 m:Nat->Nat
 d:Nat->Nat
 x0:Int
 x1:Int
 kd:Int
 sr:Int
 hk:¬(1<=kd/\kd<=3)
 DN:a=ag->¬(kd=0/\1<=sr/\sr<=3)
 mc:eT fr
 Gm:mc.k.tg=tg
 pE:mc.k.tc=tc
 ok:oK mc.k mc.s mc.F mc.G
 w:Wts mc.G
 es:Nat->fK
 bs:List j_
 ev:PC es n bs
 ex:Option aI
 ec:Nat
 et:Nat
 eu:List ai
 j:Nat
 hj:j<=n
section
variable(C:Sd.aL) (tg tc:aM) (ty:BT) (u:aj) (x:n5) (f:Nat->Nat×Sd.ax) (o n c:Nat) (a:Option aI) (es:Nat->fK) (pre post:List ai) (x0 x1:Int)
def noP (p:Nat->Int) (m d:Nat->Nat):List VB:=wD tg::Gb tc::mB ty n es pre post::PA x f::xB x0 x1::(afX x u m d++[Gk (jE 5 p m d)])
def noBv (b:Bool):V:=match b with|true=>nilB|false=>.sl 11 0 3 3
def noH0 (p:Nat->Int) (m d:Nat->Nat) (R:VB) (kd sr:Int) (v:V):List VB:=wD tg::Gb tc::mB ty n es pre post::PA x f::xB x0 x1::(afX x u m d++[Gk (jE 5 p m d),R,bytsB,oddB kd sr v])
def noVV {b:Bool} (y:NoS fr tg tc u x (dp 60 n) b) (j:Int):List V:=[.ptr 10 0,.ptr 12 0,.eW 13 0 (dp 60 n) y.ec y.ex,.int .i64 j]
def noV (b:Bool) (y:NoS fr tg tc u x (dp 60 n) b):List V:=noVV tg tc u x n y y.j
def noB (b:Bool) (y:NoS fr tg tc u x (dp 60 n) b):List VB:=noH0 tg tc ty u x f n es pre post y.x0 y.x1 y.p y.m y.d y.mc.R y.kd y.sr (noBv b)++[lx y.et 10 (dp 60 n) (jF y.es) y.eu]
def noC (b:Bool) (y:NoS fr tg tc u x (dp 60 n) b):List (LG fr):=[.bj u,.jr y.bs,.oH y.mc]
def noLp (b:Bool):Lp (LG fr):=Ah (X:=NoS fr tg tc u x (dp 60 n) b) (λy=>dp 60 n-y.j) 104 14 [9,10,11,12] (noV tg tc u x n b) (noB tg tc ty u x f n es pre post b) (noC tg tc u x n b) (λ_=>rfl) (λ_=>by cases b<;>kernel_rfl) (λ_=>rfl)
def lpNo:Nat->List V->Option (Lp (LG fr)):=λi w=>bif aA i 0 then(match nth w 52 with|.ptr _ _=>aa (noLp tg tc ty u x f n es pre post af)|_=>aa (noLp tg tc ty u x f n es pre post ag))else ae
variable(K:V->Prop)
def stpQ (m:eT fr) (kd sr:Int) (v:V) (rest:List (LG fr)) (X:Sd.ah->TR->eT fr->Prop):Prop:=
 oK m.k m.s m.F m.G/\Sd.kr ⟨0,0,0,0⟩/\∃eb:iE,EvB kd sr v rest eb/\
  ∀(t:Sd.ah),t=(Sd.fG.go C b9 ⟨m.s,fP m.G⟩ (iJ kd sr eb ⟨af,⟨0,0,0,0⟩,ag⟩ af)).s->∀(r:TR) (m':eT fr),A0 m m' t (Sd.fG.go C b9 ⟨m.s,fP m.G⟩ (iJ kd sr eb ⟨af,⟨0,0,0,0⟩,ag⟩ af)).r r->X t r m'
def noBody (b:Bool) (y:NoS fr tg tc u x (dp 60 n) b):Prop:=
 let N:=dp 60 n
 Yl y.j N/\evP y.es y.j N/\Yj tg tc y.mc.R y.mc/\Yk C y.mc (y.es (y.j:Int).toNat) ([.jr y.bs]++[]) λt tr m'=>Yj tg tc y.mc.R m'/\m'.s.c.p.queue=m'.k.most/\∀(za:Option aI) (zc zt:Nat) (zu:List ai),
  Yj tg tc y.mc.R m'/\stpQ C m' y.kd y.sr (noBv b) ([.jr y.bs]++[]) λt2 tr2 m2=>Yj tg tc y.mc.R m2/\m2.s.c.p.queue=m2.k.most/\∀(za':Option aI) (zc' zt':Nat) (zu':List ai),SameM m'.s m2.s/\
   cond (!(actG t2 t)) (K (.bool ag)) (cond (!(eqG t2.c.head t.c.head 32 0)) (K (.bool ag)) (cond ((t2.bw.length:Int)!=0) (K (.bool ag)) (cond ((t2.aV.length:Int)!=0) (K (.bool ag))
    (af=af/\xI (λy=>dp 60 n-y.j) (noV tg tc u x n b) (noB tg tc ty u x f n es pre post b) (noC (fr:=fr) tg tc u x n b) y (noVV tg tc u x n y (i64.wrap ((y.j:Int)+1))) (noB tg tc ty u x f n es pre post b y) [.bj u,.jr y.bs,.oH m2]))))
def noRest (p:Nat->Int) (m d:Nat->Nat) (mc:eT fr) (b:Bool) (kd sr:Int):Prop:=afZ tg u es o n c pre λfq bs ex ec et eu N=>
 (af=af/\xH (noV (fr:=fr) tg tc u x n b) (noB tg tc ty u x f n es pre post b) (noC tg tc u x n b) [.ptr 10 0,.ptr 12 0,.eW 13 0 (dp 60 n) ec ex,.int .i64 0] (noH0 tg tc ty u x f n es pre post x0 x1 p m d mc.R kd sr (noBv b)++[lx et 10 (dp 60 n) (jF fq) eu]) [.bj u,.jr bs,.oH mc])/\
  ∀(y:NoS fr tg tc u x (dp 60 n) b) (g:Nat->ai),cond (decide ((y.j:Int)<(dp 60 n:Nat))) (noBody C tg tc ty u x f n es pre post K b y) (K (.bool af))
def noHead (Q:(p:Nat->Int)->(m d:Nat->Nat)->Made x p m->(p2:Sd.aU)->(k:LK)->(F:ba fr (a9 k (mA p2)))->J2 (jE 5 p m d) (Gc x u) tg tc p2 k->cj=F.vs->cj=F.vr->Nat->Nat->(Nat->Nat)->Prop):Prop:=
 XI x u/\∀(p:Nat->Int) (m d:Nat->Nat) (hM:Made x p m),Pb (jE 5 p m d) (n4 m)/\∀(p2:Sd.aU) (k:LK) (F:ba fr (a9 k (mA p2))) (hN:J2 (jE 5 p m d) (Gc x u) tg tc p2 k) (v1:cj=F.vs) (v2:cj=F.vr),
  mkP (noP tg tc ty u x f n es pre post x0 x1 p m d) k p2 15/\∀(ic it:Nat) (b:Nat->Nat),axC (noP tg tc ty u x f n es pre post x0 x1 p m d) (A7 k p2 F ic it b).R/\Q p m d hM p2 k F hN v1 v2 ic it b
def noX:Prop:=noHead (fr:=fr) tg tc ty u x f n es pre post x0 x1 λp m d hM p2 k F hN v1 v2 ic it b=>
 let mc:=A7 k p2 F ic it b
 let R:=noRest C tg tc ty u x f o n c es pre post x0 x1 K p m d mc
 cond (decide (x0>=0)) (cond (decide (x0<=3)) (cond (decide (x1>=1)) (cond (decide (x1<=3)) (R af 0 x1) (R ag 0 x1)) (R ag 0 x1)) (R ag x0 x1)) (R ag x0 x1)
def LNo (fr:Sd.aO->Nat×Sd.ax) (P:aG) (C:Sd.aL):List (bK (LG fr)):=[⟨12,ag,Pj⟩,⟨9,ag,Pz⟩,⟨10,ag,Xv⟩,⟨11,af,Pv P⟩,⟨13,ag,F5 (Xp C)⟩,⟨14,af,F5 Kc⟩,⟨15,af,sameC⟩]
def no_vc:br (Gd prog gS (LNo fr prog C) BS Ec (lpNo (fr:=fr) tg tc ty u x f n es pre post)) 60 3 [.agg [.dO ⟨x.q,f⟩ x.ka x.kn x.kc],.eW 2 o n c a,.agg [.int .i64 x0,.int .i64 x1]] [wD tg,Gb tc,mB ty n es pre post] [.bj u] (λv _ _=>K v)=noX (fr:=fr) C tg tc ty u x f o n c es pre post x0 x1 K:=kR
end
end
end Go.Proofs.YtddcipamdggcnaaGreatDoor
namespace Sd
variable{crc:ax->Nat->Int}
def wait_congr {n:Nat} {f g:ax} (h:∀i,i<n->f i=g i) (hw:(eg crc n f).kind=0):(eg crc n g).kind=0:=by
 unfold eg at hw⊢;by_cases h0:n=0
 ·rw[if_pos h0];rfl
 rw[if_neg h0]at hw⊢;have e0:=h 0 oM;rw[<-e0];by_cases h1:f 0≠165
 ·rw[if_pos h1]at hw;exact absurd (show(1:Int)=0 from hw) dC
 rw[if_neg h1]at hw⊢;by_cases h2:n=1
 ·rw[if_pos h2];rfl
 rw[if_neg h2]at hw⊢;have e1:=h 1 oM;rw[<-e1];by_cases h3:f 1≠1
 ·rw[if_pos h3]at hw;exact absurd (show(3:Int)=0 from hw) dC
 rw[if_neg h3]at hw⊢;by_cases h4:n=2
 ·rw[if_pos h4];rfl
 rw[if_neg h4]at hw⊢;have e2:=h 2 oM;rw[<-e2];by_cases h5:32<f 2
 ·rw[if_pos h5]at hw;exact absurd (show(3:Int)=0 from hw) dC
 rw[if_neg h5]at hw⊢;by_cases h6:n<5+(f 2).toNat
 ·rw[if_pos h6];rfl
 rw[if_neg h6]at hw;split at hw
 ·exact absurd (show(3:Int)=0 from hw) dC
 ·exact absurd (show(2:Int)=0 from hw) dC
def go_waits {C:aL} {m:fG} {e:Ev} (hw:∀i,i<3->(eg crc (m.r i).1 (m.r i).2).kind=0) (hr:∀i,i<3->∀j,0<=(m.r i).2 j) (he:∀j,0<=e.f j):∀i,i<3->(eg crc ((m.go C crc e).r i).1 ((m.go C crc e).r i).2).kind=0:=by
 intro i hi;unfold fG.go;split
 ·split
  ·rename_i hl;show(eg crc (FO m.r (e.source.toNat-1) _ i).1 (FO m.r (e.source.toNat-1) _ i).2).kind=0;unfold FO;split
   ·rename_i ua;have h3:e.source.toNat-1<3:=oM;unfold takeN sd;refine wait_congr (f:=(iW crc _ _ _).2.2) (λj hj=>?_) (aeA (crc:=crc) _ _ _ (cY _) λj=>?_)
    ·exact(if_pos hj).symm
    ·unfold oI;split
     ·exact hr _ h3 j
     ·exact he _
   ·exact hw i hi
  ·exact hw i hi
 split
 ·exact hw i hi
 split
 ·exact hw i hi
 split
 ·exact hw i hi
 ·exact hw i hi
def go_none {C:aL} {m:fG} {e:Ev} (hk:¬(1<=e.kind/\e.kind<=3)) (h:e.kind=0->1<=e.source/\e.source<=3->e.n=0/\∀i,i<3->(eg crc (m.r i).1 (m.r i).2).kind=0):(m.go C crc e).s=m.s.bare:=by
 unfold fG.go;split
 ·rename_i h0;split
  ·rename_i hl;obtain⟨h1,h2⟩:=h h0 hl;have h3:e.source.toNat-1<3:=oM;have hs:(takeN crc (m.r (e.source.toNat-1)) e.n e.f).1=[]:=by
    unfold takeN sd;rw[h1,lA];have hc:(eg crc (m.r (e.source.toNat-1)).1 (oI (m.r (e.source.toNat-1)).1 (m.r (e.source.toNat-1)).2 e.f)).kind=0:=wait_congr (f:=(m.r (e.source.toNat-1)).2) (λj hj=>(if_pos hj).symm) (h2 _ h3);rw[aeB hc]
   rw[hs];rfl
  ·rfl
 split
 ·omega
 split
 ·omega
 split
 ·omega
 ·rfl
end Sd
namespace Go.Proofs.YtddcipamdggcnaaGreatDoor
open Go Go.RowKit Go.BigFrame Sx Vx
variable{fr:Sd.aO->Nat×Sd.ax}
def A0.wts {m m':eT fr} {ev:Sd.Ev} {t:Sd.ah} {r:TR} (h:A0 m m' t (Sd.fG.go (aP aY) b9 ⟨m.s,fP m.G⟩ ev).r r) (hm:oK m.k m.s m.F m.G) (hw:Wts m.G) (he:∀j,0<=ev.f j):Wts m'.G:=by
 intro i hi;have:=Sd.go_waits (crc:=b9) (C:=aP aY) (m:=⟨m.s,fP m.G⟩) (e:=ev) hw (λi hi j=>(hm.rb i hi j).1) he i hi;rw[<-h.rs]at this;exact this
def eqG_self (f:Nat->Int):∀n i,eqG f f n i=af
 |0,_=>rfl
 |n+1,i=>by simp[eqG,eqG_self f n]
def actG_self {s t:Sd.ah} (h:s.c=t.c):actG s t=af:=by
 unfold actG;rw[h];simp[x4E_self,labE_self]
def sameM_self {s:Sd.ah} (h:s.c.q.length<=1000000):SameM s s:=⟨rfl,rfl,rfl,rfl,h,rfl,_,rfl⟩
section
variable{tg tc:aM} {ty:BT} {u:aj} {x:n5} {f:Nat->Nat×Sd.ax} {o n c:Nat} {a:Option aI} {es:Nat->fK} {pre post:List ai} {x0 x1:Int} {K:V->Prop}
def noHead_ok {Q:(p:Nat->Int)->(m d:Nat->Nat)->Made x p m->(p2:Sd.aU)->(k:LK)->(F:ba fr (a9 k (mA p2)))->J2 (jE 5 p m d) (Gc x u) tg tc p2 k->cj=F.vs->cj=F.vr->Nat->Nat->(Nat->Nat)->Prop} (hr:XI x u)
 (h:∀p m d hM p2 k F hN v1 v2 ic it b,eV k (mA p2)->Q p m d hM p2 k F hN v1 v2 ic it b):noHead tg tc ty u x f n es pre post x0 x1 Q:=by
 refine⟨hr,λp m d hM=>?_⟩;have hb:∀j,j<4->1<=m j/\m j<=64:=λj hj=>by rw[hM.n j];exact avn _
 obtain⟨h1,h2⟩:=av1 (m:=5) (d:=d) hM.I hM.o hb;have US:Pb (jE 5 p m d) (n4 m):=⟨h1.code,λj hj=>by
  rw[<-h1.n j hj]
  match j,hj with
  |0,_=>rfl
  |1,_=>rfl
  |2,_=>rfl
  |3,_=>rfl
  |j+4,h=>exact absurd h oM,h1.k⟩
 refine⟨US,λp2 k F hN v1 v2=>⟨⟨rfl,by rw[nT],rfl,rfl⟩,λic it b=>⟨⟨_,rfl⟩,h p m d hM p2 k F hN v1 v2 ic it b ?_⟩⟩⟩;exact av2 hN (h2 _) (λj hj=>by rw[Pf _ _ _ _ hj];exact hb j hj)
def noBody_ok {b:Bool} (y:NoS fr tg tc u x (dp 60 n) b) (cH:y.j<dp 60 n):noBody (aP aY) tg tc ty u x f n es pre post K b y:=by
 have AY:=af4 y.j;have h60:dp 60 n<=60:=by unfold dp;omega
 unfold noBody;rw[AY];refine⟨af3 cH,⟨by rw[AY];exact cH,λi=>rfl⟩,af5 y.Gm y.pE rfl,?_⟩;refine axL y.ok y.ev cH sP λeb t he ht r m' hR=>?_;have hw:=hR.wts y.ok y.w λj=>(he j).1;have g1:m'.k.tg=tg:=by rw[hR.k];exact y.Gm
 have g2:m'.k.tc=tc:=by rw[hR.k];exact y.pE
 refine⟨af5 g1 g2 hR.R,hR.ok.most,λza zc zt zu=>⟨af5 g1 g2 hR.R,hR.ok,Sd.FF,iE.nil,⟨λq1 q2=>?_,.inl rfl,λj=>⟨Int.le_refl 0,by show(0:Int)<=255;decide⟩,oQ _⟩,λt2 ht2 r2 m2 hR2=>?_⟩⟩
 ·cases b with
  |true=>rfl
  |false=>exact absurd ⟨q1,q2.1,q2.2⟩ (y.DN rfl)
 ·have h2:t2=m'.s.bare:=by
   rw[ht2];refine Sd.go_none y.hk ?_;intro e1 e2;exact⟨rfl,hw⟩
  have hs:m'.s.bare=m'.s:=by rw[hR.s];rfl
  rw[hs]at h2;have K5:m2.s=m'.s:=by rw[hR2.s,h2,hR.s];rfl
  have hc:t2.c=t.c:=by rw[h2,hR.s];rfl
  have hq:m'.s.c.q.length<=1000000:=by have:=hR.ok.ok.i.q.len;have:=hR.ok.ok.i.p.queue;omega
  have WB:=hR2.wts hR.ok hw λj=>by show(0:Int)<=0;decide
  have g3:m2.k.tg=tg:=by rw[hR2.k];exact g1
  have g4:m2.k.tc=tc:=by rw[hR2.k];exact g2
  refine⟨af5 g3 g4 (hR2.R.trans hR.R),hR2.ok.most,λza' zc' zt' zu'=>⟨by rw[K5];exact sameM_self hq,?_⟩⟩;have e1:t2.bw=[]:=by rw[h2,hR.s];rfl
  have e2:t2.aV=[]:=by rw[h2,hR.s];rfl
  refine aJ (λh=>absurd h (by rw[actG_self hc];simp)) (λ_=>aJ (λh=>absurd h (by rw[hc,eqG_self];simp)) (λ_=>aJ (λh=>absurd h (by rw[e1];simp)) (λ_=>aJ (λh=>absurd h (by rw[e2];simp)) (λ_=>?_))));refine⟨rfl,⟨y.p,y.m,y.d,y.x0,y.x1,y.kd,y.sr,y.hk,y.DN,m2,g3,g4,hR2.ok,WB,y.es,y.bs,y.ev,y.ex,y.ec,y.et,y.eu,y.j+1,cH⟩,by show dp 60 n-(y.j+1)<dp 60 n-y.j;omega,?_,?_,rfl⟩
  ·rw[pH oM];rfl
  ·show noH0 tg tc ty u x f n es pre post y.x0 y.x1 y.p y.m y.d y.mc.R y.kd y.sr (noBv b)++_=noH0 tg tc ty u x f n es pre post y.x0 y.x1 y.p y.m y.d m2.R y.kd y.sr (noBv b)++_;rw[hR2.R.trans hR.R]
def no_ok (hr:XI x u) (hn:n<=c) (hE:Kl u es o n pre) (hK:K (.bool af)):noX (fr:=fr) (aP aY) tg tc ty u x f o n c es pre post x0 x1 K:=by
 refine noHead_ok hr λp m d hM p2 k F hN v1 v2 ic it b hC=>?_;have key:∀(a:Bool) (kd sr:Int),¬(1<=kd/\kd<=3)->(a=ag->¬(kd=0/\1<=sr/\sr<=3))->noRest (aP aY) tg tc ty u x f o n c es pre post x0 x1 K p m d (A7 (fr:=fr) k p2 F ic it b) a kd sr:=by
  intro a kd sr hk DN;refine hE.few hn λfq bs ex ec et eu hF=>⟨⟨rfl,⟨p,m,d,x0,x1,kd,sr,hk,DN,A7 k p2 F ic it b,hN.tg,hN.tc,axJ hC hN.most hN.qq v1 v2 ic it b,λi _=>rfl,fq,bs,hE.cp hF,ex,ec,et,eu,0,oQ _⟩,rfl,rfl,rfl⟩,?_⟩;intro y g;exact aJ (λe=>noBody_ok y (by simpa using e)) (λ_=>hK)
 refine aJ (λh1=>aJ (λh2=>aJ (λh3=>aJ (λh4=>?_) (λh4=>?_)) (λh3=>?_)) (λh2=>?_)) (λh1=>?_)
 ·exact key af 0 x1 dC (λe=>by cases e)
 ·have:¬x1<=3:=by simpa using h4
  exact key ag 0 x1 dC (λ_ h=>oM)
 ·have:¬x1>=1:=by simpa using h3
  exact key ag 0 x1 dC (λ_ h=>oM)
 ·have:¬x0<=3:=by simpa using h2
  exact key ag x0 x1 oM (λ_ h=>oM)
 ·have:¬x0>=0:=by simpa using h1
  exact key ag x0 x1 oM (λ_ h=>oM)
end
end Go.Proofs.YtddcipamdggcnaaGreatDoor
namespace Go.Proofs.YtddcipamdggcnaaGreatDoor
section
open Go Go.RowKit Go.BigFrame Sx Vx
def LNo_ok:aH prog gS (LNo oL prog (aP aY)):=
 have n:∀{c:dk (LG oL)},(ag=af->jo c):=λe=>by cases e
 aH.cons ⟨few_25S,n⟩ (aH.cons ⟨shn_25,n⟩ (aH.cons ⟨avA,n⟩ (aH.cons ⟨aw6,λ_=>aw8⟩ (aH.cons ⟨afb (avk afF),n⟩ (aH.cons ⟨afb (axk afF),λ_=>axj⟩ (aH.cons ⟨same_sound,λ_=>same_quiet⟩ aH.nil))))))
def nothing_ {W:aj} {tg tc:aM} (hG:W.heap[0]?=aa (.cells (aD .u32 64 c_) tg (0,0))) (hC:W.heap[1]?=aa (.cells #[.bool ag,.bool ag,.bool ag,.bool ag,.bool ag,.bool ag,.bool ag,.bool ag,.bool ag,.bool ag,.bool af,.bool af] tc (0,0)))
 (q:Nat->Int) (ka:Nat->Option aI) (kn kc:Nat->Nat) (hr:∀j,j<4->jc W (ka j) (kn j) (kc j) (dB W (ka j))) {v:ai} {es:Nat->fK} {i o n c:Nat} {a:Option aI} {ty:BT} {pre post:List ai} (hR:A4 W v 10 (jF es) i o n c a ty pre post)
 (zj:∀j,j<n->jc W (es j).x (es j).n (es j).c (dB W (es j).x)) (hx4:∀j,Sd.kr (es j).s.x) (x0 x1:Int):
 aX prog 3 #[.agg (sW ⟨q,λ_=>(0,λ_=>0)⟩ ka kn kc).toArray,v,.agg #[.int .i64 x0,.int .i64 x1]] W λv w1=>v=.bool af/\Ch [] W w1:=by
 have S:=awM (fr:=oL) hG hC (i:=i) (b:=mB ty n es pre post) rfl rfl (by
  rw[hR.at_];simp only[mB,ak,cl,cT])
 have cV:br (Gd prog gS (LNo oL prog (aP aY)) BS Ec (lpNo (fr:=oL) tg tc ty W ⟨q,ka,kn,kc⟩ (λ_=>(0,λ_=>0)) n es pre post)) 60 3 [.agg [.dO ⟨q,λ_=>(0,λ_=>0)⟩ ka kn kc],.eW 2 o n c a,.agg [.int .i64 x0,.int .i64 x1]] [wD tg,Gb tc,mB ty n es pre post] [.bj W] (λv _ _=>v=.bool af):=by
  rw[no_vc (x:=⟨q,ka,kn,kc⟩)];exact no_ok ⟨hr 0 dC,hr 1 dC,hr 2 dC,hr 3 dC⟩ hR.le ⟨hR.po,zj,hx4⟩ rfl
 have cN:(aE [0,1,i] [.agg [.dO ⟨q,λ_=>(0,λ_=>0)⟩ ka kn kc],.eW 2 o n c a,.agg [.int .i64 x0,.int .i64 x1]]).toArray=#[.agg (sW ⟨q,λ_=>(0,λ_=>0)⟩ ka kn kc).toArray,v,.agg #[.int .i64 x0,.int .i64 x1]]:=by
  rw[hR.v];simp only[aE,den,ak,cl,cT];rfl
 rw[<-cN];refine(eZ (C:=Gd prog gS (LNo oL prog (aP aY)) BS Ec (lpNo (fr:=oL) tg tc ty W ⟨q,ka,kn,kc⟩ (λ_=>(0,λ_=>0)) n es pre post)) LNo_ok.T LNo_ok.Q 60 (awN i) rfl S cV).mono ?_;rintro v w' ⟨x,more,bl',ch',rfl,h1,S',rfl⟩;exact⟨rfl,S'.ch⟩
end
end Go.Proofs.YtddcipamdggcnaaGreatDoor
namespace Go.Proofs.YtddcipamdggcnaaGreatDoor.machineNothing
open Go.ChangeShapes Go.WideShapes Go.ChangeAt Go.RowKit Go.Joins Sd Sx
def opened (H:Type) (enc:aM×ai->H) (W:aj) (args:Array ai) (ds gs:List (DataW H)) (before:List MemPlace)
 (Kn:∀(j:Nat) t v,Tryz.f3.params[j]?=aa t->args[j]?=aa v->DG prog W .any 0 t v)
 (hW:DataW.Whole enc prog Tryz.f3.params.toList Rows.machineNothingSpec.vars ag W args.toList ds gs before) (hL:laidMetH prog X7 W):
 Rows.machineNothingSpec.fn H (ds++gs)={results:=[.lit (.bool af)],args:=ds,vars:=[]}/\Calls prog 3 args W λe W'=>e=.returned (.bool af)/\Below W.heap.size W W':=by
 obtain⟨p,q,hA,hV,rfl,A5,vK⟩:=hW;obtain⟨tG,hG⟩:=awP hL;obtain⟨tC,hC⟩:=awZ hL;rw[Tryz.params3]at hA Kn;obtain⟨v0,v1,v2,d0,d1,d2,p0,p1,p2,cN,rfl,_,Pp,Pr,_⟩:=trodAll_three hA;obtain rfl:args=#[v0,v1,v2]:=by cases args;simp_all
 obtain⟨rfl,rfl⟩:=trodVars_none hV;obtain⟨pq,ka,kn,kc,rfl,hk⟩:=aw0 (Kn 0 28 v0 rfl rfl) (λn=>by obtain⟨fuel,h⟩:=Pp;exact Sx.J6 n h);have lu:=awS Tryz.underlying29 rfl (Kn 1 29 v1 rfl rfl);have zj:∀k,Sx.Rd prog W k 29 [v1]:=λk=>by
  obtain⟨a,m,c,rfl,_,_⟩:=X8 Tryz.underlying29 lu;obtain⟨fuel,h2⟩:=Pr;exact Sx.J6 k h2
 obtain⟨es,i,o,n,c,a,ty,pre,post,hR,hO,hx⟩:=aw1 lu zj hG;obtain⟨x0,x1,rfl⟩:=open_i2 (Kn 2 30 v2 rfl rfl);exact⟨rfl,Sx.agr (nothing_ hG hC pq ka kn kc hk hR hO hx x0 x1)⟩
def own:ownKnob prog.godebug=ae:=kR
def PI:List (String×DataW Unit):=[("sidestick/gate.commands",Rows.laid_sidestick_gate_commands),("sidestick/sha.roots",agm)]
def axS (os:Os) (args:Array ai):laidMetH prog PI ((World.doorLaid prog 400 os).forCall (λ_ _=>0) ⟨#[],args,[]⟩).memory:=
 laidMetH_of_parts3 (fuel:=8) (laidMet_of_run' 8 kR kR) kR kR
def lifted (os:Os) (started:os.Started) (H:Type) (enc:aM×ai->H):
 ReturnsInHanded {} ago os 3 .any (λw args=>(Rows.machineNothingSpec.pre enc prog Tryz.f3 [] ag w args/\laidMetH prog PI w)/\sizedMet enc prog Tryz.f3 (OpenSpec.ofChange Rows.machineNothingSpec) ag w args)
  (Rows.machineNothingSpec.post enc prog Tryz.f3 ag af ag ag):=by
 refine returnsInHanded_of_change_and (C:=ago) (X:=λw _=>laidMetH prog PI w) (λ_ _ _ hh h=>h.of_heap hh) own started kR Tryz.func3
  (ChangeSpec.witness_shaped (enc:=enc) (C:=ago) (os:=os) (X:=λw _=>laidMetH prog PI w) ag (World.doorLaid prog 400 os) #[.agg #[.int .i64 0,.int .i64 0,.int .i64 0,.int .i64 0,.int .i64 0,.slice ae 0 0,.slice ae 0 0,.slice ae 0 0,.slice ae 0 0,.int .i64 0,.int .i64 0,.int .i64 0,.int .i64 0,.int .i64 0,.int .i64 0,.int .i64 0,.int .i64 0,.int .i64 0,.int .i64 0,.int .i64 0,.int .i64 0,.int .i64 0,.int .i64 0,.int .i64 0,.int .i64 0,.int .i64 0,.int .i64 0,.int .i64 0,.int .i64 0,.int .i64 0,.int .i64 0,.int .i64 0,.int .i64 0,.int .i64 0,.int .i64 0,.int .i64 0,.int .i64 0,.int .i64 0,.int .i64 0,.int .i64 0,.int .i64 0,.int .i64 0,.int .i64 0,.int .i64 0,.int .i64 0,.int .i64 0,.int .i64 0,.int .i64 0,.int .i64 0,.int .i64 0,.int .i64 0,.int .i64 0,.int .i64 0,.int .i64 0,.int .i64 0,.int .i64 0],.slice ae 0 0,.agg #[.int .i64 0,.int .i64 0]] 8 rfl (World.shaped_of_RefB kR kR) kR kR kR (axS os _)) ?_
 intro W base args ds gs before Kn hW _ _ hL _;obtain⟨hs,hc⟩:=opened H enc W args ds gs before Kn hW hL;refine hc.mono λe W' ⟨he,hb⟩=>⟨_,he,?_⟩;exact awQ kR kR rfl kR Tryz.underlying4 hs hW hb
end Go.Proofs.YtddcipamdggcnaaGreatDoor.machineNothing
