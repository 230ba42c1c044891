/- CoreTimes: texts printed small. -/
import Derived.Test.YtggfpcggakghnaaGreatDoorCards
import Derived.Test.YtggfpcggakghnaaGreatDoorTie
import Derived.Lib.SmallJoins
import Derived.SevenTiedAt
import Derived.LaidMore
import Derived.Stop.Joined
import Derived.Test.YtggfpcggakghnaaGreatDoorRows
import Derived.ProofKit
import Derived.Test.YtggfpcggakghnaaGreatDoorT7
set_option linter.all false
set_option maxRecDepth 100000
set_option maxHeartbeats 4000000
open Go.Proofs.Tryz
open Go.IntKind (u8 u16 u32 u64 i64)
open Go renaming TypeId->aJ,Addr->aQ,Value->ae,World->ag
open Go.Proofs.Tryz renaming checked->Ki
open Go.Proofs.YtggfpcggakghnaaGreatDoor.Rows renaming laid_sidestick_sha_roots->Yy
open Go.Value renaming okWide->AS
open Go.World renaming doorLaid->YA
open Int renaming tmod_eq_emod_of_nonneg->FK,ofNat->db,le_trans->vW
open List renaming append_nil->cH,nil_append->fi,all_eq_true->gm
open Nat renaming beq->az,eq_of_beq_eq_true->cz,le_add_right->yv
open Option.some renaming inj->cG
namespace Go.Proofs.YtggfpcggakghnaaGreatDoor
section
open Go Go.RowKit Go.BigFrame Sx Vx
def Pj (C:Sd.aK):List (bR (LG bN)):=⟨23,false,Ad λ_=>Wb C⟩::LBs C
theorem XO:aI prog gS (Pj (aq ay)):=aI.cons (V_ (atH Ju)) aya
def eh (p:Nat->Int) (i:Nat):Int:=bif az i 45 then i64.wrap (1+(p 43).tmod 100)else bif az i 44 then i64.wrap (1+(p 46).tmod 100)else na p i
def ayg (x:gk) (f:Nat->Nat×Sd.ao):VB:=⟨true,⟨28,(0,0)⟩,[.dz ⟨x.q,f⟩ x.ka x.kn x.kc]⟩
def Fx (key:Sd.ao):VB:=⟨true,⟨37,(0,0)⟩,ints 32 key⟩
def Fy (r:Sd.aF):VB:=⟨true,⟨40,(0,0)⟩,iF r⟩
def Fz (tg tc:aJ) (x:gk) (f:Nat->Nat×Sd.ao) (u:ag) (m d:Nat->Nat) (L:List V) (k:LK) (s:Sd.aa):List VB:=
 [j5 tg,nK tc,ayg x f,dF (m 0) (d 0) (jK (x.kn 0) (fb u (x.ka 0))),dF (m 1) (d 1) (jK (x.kn 1) (fb u (x.ka 1))),dF (m 2) (d 2) (jK (x.kn 2) (fb u (x.ka 2))),dF (m 3) (d 3) (jK (x.kn 3) (fb u (x.ka 3))),⟨true,⟨28,(0,0)⟩,L⟩,g_ k 9 s,gM s]
structure ym (tg tc:aJ) (u:ag) (x:gk) (a b:Int) where
 p:Nat->Int
 m:Nat->Nat
 d:Nat->Nat
 hM:Made x p m
 p2:Sd.aO
 hp:∀i,i<56->iE i=false->p2.i i=eh p i
 k:LK
 j:Nat
 s:Sd.aa
 F:aX bN (aU k s)
 fB:List aj
 hB:lz tg tc k s F
 c:Sd.Core
 aP:s.at_ c []
 hT:Sd.TS p2 a b (p2.ah+1) p2.offer p2.ask j c
 hj:(j:Int)<=max (eh p 45) (eh p 44)
 one:Sd.ao
 rA:Sd.aF
 two:Sd.ao
 rB:Sd.aF
 s3:Sd.aa
 t3:TR
 s4:Sd.aa
 t4:TR
 s5:Sd.aa
 t5:TR
section
variable(C:Sd.aK) (tg tc:aJ) (u:ag) (x:gk) (f:Nat->Nat×Sd.ao) (x0:Int) (K:V->Prop) (a b:Int)
def XP (y:ym tg tc u x a b):List V:=[.ptr 7 0,.int .i64 a,.int .i64 b,.ptr 8 0,.int .i64 ((y.j:Int)+1)]
def XQ (y:ym tg tc u x a b):List VB:=Fz tg tc x f u y.m y.d (gw 3 (eh y.p) y.m y.d) y.k y.s++[Fx y.one,Fy y.rA,Fx y.two,Fy y.rB,y.t3.sB y.s3,y.t3.rB y.s3,y.t4.sB y.s4,y.t4.rB y.s4,y.t5.sB y.s5,y.t5.rB y.s5]
def XR (y:ym tg tc u x a b):List (LG bN):=[.a_ u,.core (bj y.k y.s y.F) y.fB]
def tzM (y:ym tg tc u x a b):Nat:=200-y.j
def ayh:Lp (LG bN):=D6 (X:=ym tg tc u x a b) (tzM tg tc u x a b) 195 20 [6,7,8,9,15] (XP tg tc u x a b) (XQ tg tc u x f a b) (XR tg tc u x a b) (λ_=>rfl) (λ_=>by kernel_rfl) (λ_=>rfl)
def agy:Nat->List V->Option (Lp (LG bN)):=λi _=>bif az i 0 then some (ayh tg tc u x f a b)else none
def sT (b:Int):Sd.aF:={kind:=136,cX:=b,code:=30}
def JU (rs:List Sd.aF) (X:Prop):Prop:=(0<=(0:Int)/\(0:Int)<(rs.length:Int))/\((0:Int).toNat<rs.length/\∀j,(mw rs j).length=14)/\X
def agz (y:ym tg tc u x a b) (s:Sd.aa) (F:aX bN (aU y.k s)) (fB:List aj):Prop:=true=true/\BA (tzM tg tc u x a b) (XP tg tc u x a b) (XQ tg tc u x f a b) (XR tg tc u x a b) y [.ptr 7 0,.int .i64 a,.int .i64 b,.ptr 8 0,.int .i64 (i64.wrap ((y.j:Int)+1+1))]
 (Fz tg tc x f u y.m y.d (gw 3 (eh y.p) y.m y.d) y.k s++[Fx y.one,Fy y.rA,Fx y.two,Fy y.rB,y.t3.sB y.s3,y.t3.rB y.s3,y.t4.sB y.s4,y.t4.rB y.s4,y.t5.sB y.s5,y.t5.rB y.s5]) [.a_ u,.core (bj y.k s F) fB]
def XS (y:ym tg tc u x a b):Prop:=Ph tg tc 9 y.k y.s y.F ((bP y.s).tick C) λs2 r2 nQ F2=>
 Pd tg s2 r2 (nQ++y.fB) a λxs=>Pd tg s2 r2 (nQ++y.fB) b λys=>Pc tg tc 9 y.k (cd s2) (
 let i:Int:=(y.j:Int)+1
 let E:=agz tg tc u x f a b y (cd s2) F2 (nQ++y.fB)
 let R:=cond ((ys.length:Int)==1) (JU ys (cond (!(C5 (ys.getD 0 default) (sT b))) (jO K) E)) E
 cond (s2.c.t.aG !=a) (jO K) (cond ((s2.c.t.offer==b)!=decide (i<eh y.p 44)) (jO K) (cond (((s2.c.q.length:Int)==1)!=decide (i<eh y.p 45)) (jO K) (cond (((xs.length:Int)==1)!=(i==eh y.p 44)) (jO K) (cond (((ys.length:Int)==1)!=(i==eh y.p 45)) (jO K)
  (cond (decide ((xs.length:Int)>1)) (jO K) (cond (decide ((ys.length:Int)>1)) (jO K) (cond ((xs.length:Int)==1) (JU xs (cond (!(C5 (xs.getD 0 default) (sT b))) (jO K) R)) R))))))))
def XT (ja jb:Nat) (p:Nat->Int) (m d:Nat->Nat):Prop:=XH tg tc u x (gw 3 (eh p) m d) m λp2 k F=>
 yk C tg tc 9 k (gQ p2) F (m ja) (m ja+d ja) (vE x u ja) a 1 λs1 one r1 F1 Pg=>
 yk C tg tc 9 k s1 F1 (m jb) (m jb+d jb) (vE x u jb) b 1 λs2 two r2 F2 vN=>
 vL C tg tc 9 k s2 F2 one a {Sd.c_ 5 with seq:=1} λs3 r3 JV F3=>
 vL C tg tc 9 k (cd s3) F3 two b {Sd.c_ 5 with seq:=1} λs4 r4 C6 F4=>
 vL C tg tc 9 k (cd s4) F4 one a {Sd.c_ 6 with seq:=2,aT:=b} λs5 r5 C7 F5=>
 (true=true/\Bz (XP tg tc u x a b) (XQ tg tc u x f a b) (XR tg tc u x a b) [.ptr 7 0,.int .i64 a,.int .i64 b,.ptr 8 0,.int .i64 1] (Fz tg tc x f u m d (gw 3 (eh p) m d) k (cd s5)++[Fx one,Fy r1,Fx two,Fy r2,r3.sB s3,r3.rB s3,r4.sB s4,r4.rB s4,r5.sB s5,r5.rB s5]) [.a_ u,.core (bj k (cd s5) F5) (C7++(C6++(JV++vN)))])/\
 ∀(y:ym tg tc u x a b) (g:Nat->ae),cond (decide ((y.j:Int)+1<=(if eh y.p 44>eh y.p 45 then eh y.p 44 else eh y.p 45))) (XS C tg tc u x f K a b y) (K (.bool true))
def gTz (r0:Nat) (i:Nat):Nat:=bif az i 35 then r0 else(1+r0)%3
def Pk (r0:Nat):Prop:=br (qY prog gS (Pj C) (JR (gTz r0)) Pe (agy tg tc u x f a b)) 60 8 [.agg [.dz ⟨x.q,f⟩ x.ka x.kn x.kc],.int .u8 x0] [j5 tg,nK tc] [.a_ u] (λv _ _=>K v)
def XU (r0:Nat) (ja jb:Nat):Prop:=shP tg tc ((jL x u 0/\jL x u 1/\jL x u 2/\jL x u 3)/\∀(p:Nat->Int) (m d:Nat->Nat),Made x p m->
 ((i64.wrap x0).tmod 3=db r0/\a.tmod 3=db ((1+r0)%3)/\XT C tg tc u x f K a b ja jb p m d))
end
section
variable(C:Sd.aK) (tg tc:aJ) (u:ag) (x:gk) (f:Nat->Nat×Sd.ao) (x0:Int) (K:V->Prop)
theorem ayi:Pk C tg tc u x f x0 K 1 2 0=XU C tg tc u x f x0 K 1 2 0 0 1:=by kernel_rfl
theorem ayj:Pk C tg tc u x f x0 K 2 3 1=XU C tg tc u x f x0 K 2 3 1 1 2:=by kernel_rfl
theorem ayk:Pk C tg tc u x f x0 K 3 1 2=XU C tg tc u x f x0 K 3 1 2 2 0:=by kernel_rfl
end
section
variable{tg tc:aJ} {it:Nat} {k:LK} {s:Sd.aa} {F:aX bN (aU k s)} {c:Sd.Core}
theorem X9 {X:(s':Sd.aa)->TR->List aj->aX bN (aU k (cd s'))->Prop} (hB:lz tg tc k s F) (hX:∀s',s'=s.tick (aq ay)->∀(r:TR) (fn:List aj) (F0:aX bN (aU k (cd s'))),lz tg tc k (cd s') F0->lx bN s'.bg r.fv fn->(∀y∈s'.bg,Sd.ow y)/\s'.bg.length<=1000->X s' r fn F0):Ph tg tc it k s F ((bP s).tick (aq ay)) X:=by
 refine⟨hB.cF,hB.co,?_⟩;rw[ph];intro s' e r fn F0 v1 v2 hf;have hE:=(Sd.ad2 (C:=aq ay) (b:=False) hB.c.i).1;have hq:s.c.q.length<=3:=by have:=hB.c.i.q.len;have:=hB.c.i.p.queue;omega
 refine hX s' e r fn F0 ⟨hB.tg,hB.tc,?_,hB.kR,?_,v1,v2⟩ hf ⟨?_,?_⟩
 ·show s'.c.p.queue=k.most;rw[e,Wd hE];exact hB.q
 ·rw[e];exact hB.c.tick
 ·rw[e];exact hE.agi hB.c.e1
 ·have:=(Sd.axv (aq ay) s hq (adT _).2).2;rw[hB.c.e1]at this;rw[e];simp at this;omega
theorem X_ {s':Sd.aa} {r:TR} {fB:List aj} {l:Int} {X:List Sd.aF->Prop} (hf:lx bN s'.bg r.fv fB) (hs:(∀y∈s'.bg,Sd.ow y)/\s'.bg.length<=1000) (hX:X (Sd.dT s'.bg l)):Pd tg s' r fB l X:=
 ⟨s'.bg,r.fv,⟨rfl,rfl,rfl,hs.1,hs.2,hf,tg,rfl⟩,λrs e x' c' ty us=>by rw[e];exact hX⟩
end
theorem ayt (c:Sd.Core) (k:Int) (m:Sd.a9):(Sd.At c k m).1.af=c.af:=by
 unfold Sd.At;split
 ·rfl
 split
 ·unfold Sd.pa;dsimp only;split
  ·rfl
  ·split<;>rfl
 split
 ·unfold Sd.CZ;dsimp only;split<;>rfl
 split
 ·unfold Sd.OL;dsimp only;split<;>rfl
 split
 ·unfold Sd.OM;dsimp only;split<;>rfl
 ·unfold Sd.ON;dsimp only;split<;>rfl
theorem FA (C:Sd.aK) (c:Sd.Core) (k:Int) (m:Sd.a9):(Sd.fp C c k m).1.af=c.af.eK C c.p k m.seq:=ayt _ _ _
theorem agC {x:gk} {p:Nat->Int} {m:Nat->Nat} (hM:Made x p m):AQ p (eh p)/\(1<=eh p 44/\eh p 44<=100)/\1<=eh p 45/\eh p 45<=100:=by
 have h:=agt hM;have h43:=hM.I.ti 43 (by decide) (by decide);have h46:=hM.I.ti 46 (by decide) (by decide);have Pq:1<=eh p 44/\eh p 44<=100:=by
  show 1<=i64.wrap (1+(p 46).tmod 100)/\i64.wrap (1+(p 46).tmod 100)<=100;rw[FK (by omega),kQ (by omega)];omega
 have Pr:1<=eh p 45/\eh p 45<=100:=by
  show 1<=i64.wrap (1+(p 43).tmod 100)/\i64.wrap (1+(p 43).tmod 100)<=100;rw[FK (by omega),kQ (by omega)];omega
 have e:∀i,i≠45->i≠44->eh p i=na p i:=λi h1 h2=>by
  unfold eh;have b1:az i 45=false:=by cases h:az i 45 with|false=>rfl|true=>exact absurd (cz h) h1
  have b2:az i 44=false:=by cases h:az i 44 with|false=>rfl|true=>exact absurd (cz h) h2
  rw[b1,b2];rfl
 refine⟨⟨λi hi=>by rw[e i (by omega) (by omega)];exact h.lo i hi,h.r9,λi hi=>by rw[e i (by omega) (by omega)];exact h.AA i hi,λi hi=>by rw[e i (by omega) (by omega)];exact h.af i hi,λi hi=>by rw[e i (by omega) (by omega)];exact h.gr i hi,λi hi=>by rw[e i (by omega) (by omega)];exact h.mo i hi,λi h1 h2=>?_,h.be,λi h1 h2=>by rw[e i (by omega) (by omega)];exact h.qs i h1 h2,λi hi=>by rw[e i (by omega) (by omega)];exact h.li i hi,h.ep⟩,Pq,Pr⟩;by_cases h5:i=45
 ·subst h5;omega
 by_cases h4:i=44
 ·subst h4;omega
 ·rw[e i h5 h4];exact h.ti i h1 h2
theorem agD {r:Sd.aF} {l:List Sd.aF} {X:Prop} (h:X):JU (r::l) X:=⟨⟨Int.le_refl _,by show(0:Int)<((l.length+1:Nat):Int);omega⟩,⟨by show 0<l.length+1;omega,λj=>rfl⟩,h⟩
section
variable{tg tc:aJ} {u:ag} {x:gk} {f:Nat->Nat×Sd.ao} {x0:Int} {K:V->Prop} {a b:Int}
theorem ayu (jJ:a≠b) (ha:1<=a/\a<=3) (hb:1<=b/\b<=3) (y:ym tg tc u x a b) (hj:(y.j:Int)+1<=max (eh y.p 45) (eh y.p 44)):XS (aq ay) tg tc u x f K a b y:=by
 obtain⟨hq,Pq,Pr⟩:=agC y.hM;have eo:y.p2.offer=eh y.p 44:=y.hp 44 (by decide) rfl;have ea:y.p2.ask=eh y.p 45:=y.hp 45 (by decide) rfl;have wb:(y.j:Int)+1<=100:=by
  have:max (eh y.p 45) (eh y.p 44)<=100:=Int.max_le.2 ⟨Pr.2,Pq.2⟩;omega
 have hT:=Sd.axa ha hb y.hT (by omega);rw[eo,ea]at hT;obtain⟨T2,L2,he,hl⟩:=hT;have hr:=Sd.awk (C:=aq ay) y.aP he hl;unfold Sd.aa.res at hr;rw[fi,L2]at hr;unfold XS;refine X9 y.hB λs2 e2 r2 nQ F2 B2 om qc=>?_;rw[<-e2]at hr;have ht2:=(yl hr).1.trans T2.ct;have HD:=(yl hr).2.1.trans T2.cq;have dx:Sd.dT s2.bg a=if(y.j:Int)+1=eh y.p 44 then[sT b]else[]:=by
  rw[hr.2,Sd.W7];have e1:Sd.dT (if(y.j:Int)+1=eh y.p 45 then[(b,Sd.OV b)]else[]) a=[]:=by split<;>simp[Sd.dT,jJ.symm]
  rw[e1,cH];split
  ·rw[Sd.OO];rfl
  ·rfl
 have dy:Sd.dT s2.bg b=if(y.j:Int)+1=eh y.p 45 then[sT b]else[]:=by
  rw[hr.2,Sd.W7];have e1:Sd.dT (if(y.j:Int)+1=eh y.p 44 then[(a,Sd.OV b)]else[]) b=[]:=by split<;>simp[Sd.dT,jJ]
  rw[e1,fi];split
  ·rw[Sd.OO];rfl
  ·rfl
 have hE:agz tg tc u x f a b y (cd s2) F2 (nQ++y.fB):=by
  refine⟨rfl,{y with j:=y.j+1,s:=cd s2,F:=F2,fB:=nQ++y.fB,hB:=B2,c:=(Sd.JE y.c).1,aP:=vM hr,hT:=by rw[eo,ea];exact T2,hj:=by show((y.j+1:Nat):Int)<=_;omega},?_,?_,rfl,rfl⟩
  ·show 200-(y.j+1)<200-y.j;omega
  ·rw[kQ (by omega)];show[V.ptr 7 0,.int .i64 a,.int .i64 b,.ptr 8 0,.int .i64 ((y.j:Int)+1+1)]=[V.ptr 7 0,.int .i64 a,.int .i64 b,.ptr 8 0,.int .i64 (((y.j+1:Nat):Int)+1)];rfl
 refine X_ (om.app _) qc (X_ (om.app _) qc (XJ B2 ?_));rw[dx,dy,ht2,HD];dsimp only;have hnb:((-1:Int)==b)=false:=beq_eq_false_iff_ne.2 (by omega);have ec:((y.j+1:Nat):Int)=(y.j:Int)+1:=rfl;rw[ec];have hG:(!(C5 (sT b) (sT b)))=false:=by rw[agr];rfl
 refine nR (by simp) ?_;have c1:(((if(y.j:Int)+1<eh y.p 44 then b else-1)==b)!=decide ((y.j:Int)+1<eh y.p 44))=false:=by
  by_cases h:(y.j:Int)+1<eh y.p 44
  ·rw[if_pos h,decide_eq_true h];simp
  ·rw[if_neg h,decide_eq_false h,hnb];rfl
 have c2:((((if(y.j:Int)+1<eh y.p 45 then[(⟨b,Sd.bb y.p2 b,⟨(y.j:Int)+1,eh y.p 45⟩⟩:Sd.Ask)]else[]).length:Int)==1)!=decide ((y.j:Int)+1<eh y.p 45))=false:=by
  by_cases h:(y.j:Int)+1<eh y.p 45
  ·rw[if_pos h,decide_eq_true h];rfl
  ·rw[if_neg h,decide_eq_false h];rfl
 have c3:∀q:Int,((((if(y.j:Int)+1=q then[sT b]else[]).length:Int)==1)!=((y.j:Int)+1==q))=false:=λq=>by
  by_cases h:(y.j:Int)+1=q
  ·rw[if_pos h,beq_iff_eq.2 h];rfl
  ·rw[if_neg h,beq_eq_false_iff_ne.2 h];rfl
 have c4:∀q:Int,decide (((if(y.j:Int)+1=q then[sT b]else[]).length:Int)>1)=false:=λq=>by split<;>rfl
 have step:∀(q:Int) (E:Prop),E->cond (((if(y.j:Int)+1=q then[sT b]else[]).length:Int)==1) (JU (if(y.j:Int)+1=q then[sT b]else[]) (cond (!(C5 ((if(y.j:Int)+1=q then[sT b]else[]).getD 0 default) (sT b))) (jO K) E)) E:=λq E h=>by
  split
  ·exact Az rfl (agD (nR hG h))
  ·exact nR rfl h
 refine nR c1 (nR c2 (nR (c3 _) (nR (c3 _) (nR (c4 _) (nR (c4 _) (step _ _ (step _ _ hE)))))))
theorem Ya {p:Nat->Int} {m d:Nat->Nat} {ja jb:Nat} (hM:Made x p m) (jJ:a≠b) (ha:1<=a/\a<=3) (hb:1<=b/\b<=3) (XM:ja=a.toNat-1) (lO:jb=b.toNat-1) (hK:K (.bool true)):XT (aq ay) tg tc u x f K a b ja jb p m d:=by
 obtain⟨hq,Pq,Pr⟩:=agC hM;have hE:=XL hM;unfold XT;refine ags hM hq λp2 k F hB hi hk wL=>?_;have hA:=agu hq hi;have e55:p2.ah=na p 55:=hi 55 (by decide) rfl;have h3:p2.fj=3:=hi 49 (by decide) rfl;have zT:p2.queue=3:=hi 48 (by decide) rfl;have Fw:p2.bV=900:=hi 42 (by decide) rfl;have eo:p2.offer=eh p 44:=hi 44 (by decide) rfl;have ea:p2.ask=eh p 45:=hi 45 (by decide) rfl;refine ayf hB hA h3 ha hb jJ XM lO (by decide) (by decide) hk wL (yv _ _) (yv _ _) λs1 one r1 s2 two r2 F2 vN c2 B2 JT H2 S2=>?_;rw[Fw]at S2;refine AB B2 JT H2.sa (⟨by decide,.inr (.inl ⟨rfl,rfl⟩)⟩:kW {Sd.c_ 5 with seq:=1}) (by show(0:Int)<1;decide) λs3 r3 JV F3 B3 C8 hf3 JX=>?_;obtain⟨H3,L3⟩:=Sd.afz (C:=aq ay) (m:={Sd.c_ 5 with seq:=1}) ui H2 jJ rfl (by show(0:Int)<1/\(0:Int)<=1/\(1:Int)<=4294967295;decide) rfl rfl (by show p2.ah<65535;omega);have S3:Sd.Still (Sd.fp (aq ay) c2 a {Sd.c_ 5 with seq:=1}).1.af 900 0:=by rw[FA];exact Sd.Xi (by decide) (by rw[H2.p];exact Fw) S2
 generalize (Sd.fp (aq ay) c2 a {Sd.c_ 5 with seq:=1}).1=c3 at C8 H3 S3;refine AB B3 (vM C8) H3.sb (⟨by decide,.inr (.inl ⟨rfl,rfl⟩)⟩:kW {Sd.c_ 5 with seq:=1}) (by show(0:Int)<1;decide) λs4 r4 C6 F4 B4 JY hf4 hs4=>?_;obtain⟨H4,L4⟩:=Sd.Xh (C:=aq ay) (m:={Sd.c_ 5 with seq:=1}) ui H3.swap jJ.symm rfl (by show(0:Int)<1/\(0:Int)<=1/\(1:Int)<=4294967295;decide) rfl (by show a≠4;omega) (by show b≠a;exact jJ.symm) rfl (by show p2.ah+1<65535;omega) rfl (by rw[zT];decide);have S4:Sd.Still (Sd.fp (aq ay) c3 b {Sd.c_ 5 with seq:=1}).1.af 900 0:=by rw[FA];exact Sd.Xi (by decide) (by rw[H3.p];exact Fw) S3
 generalize (Sd.fp (aq ay) c3 b {Sd.c_ 5 with seq:=1}).1=c4 at JY H4 S4;refine AB B4 (vM JY) H4.sb (⟨by show(0:Int)<=2/\(2:Int)<=4294967295;decide,.inr (.inr (.inl ⟨rfl,by show 0<=b/\b<=4;omega,rfl⟩))⟩:kW {Sd.c_ 6 with seq:=2,aT:=b}) (by show(1:Int)<2;decide) λs5 r5 C7 F5 B5 JZ hf5 hs5=>?_;obtain⟨H5,L5⟩:=Sd.awq (C:=aq ay) (m:={Sd.c_ 6 with seq:=2,aT:=b}) ui H4.swap jJ rfl (by show(1:Int)<2/\(0:Int)<=2/\(2:Int)<=4294967295;decide) rfl rfl (by show(-1:Int)<0;decide) (by show p2.ah+1<65535;omega);have S5:Sd.Still (Sd.fp (aq ay) c4 a {Sd.c_ 6 with seq:=2,aT:=b}).1.af 900 0:=by rw[FA];exact Sd.Xi (by decide) (by rw[H4.p];exact Fw) S4
 generalize (Sd.fp (aq ay) c4 a {Sd.c_ 6 with seq:=2,aT:=b}).1=c5 at JZ H5 S5;have hT:Sd.TS p2 a b (p2.ah+1) p2.offer p2.ask 0 c5:=by
  refine⟨H5.p,?_,?_,S5,H5.sa.on,H5.sb.on⟩
  ·rw[H5.t,if_pos (by rw[eo];show(0:Int)<eh p 44;omega),if_pos (by rw[eo];show(0:Int)<eh p 44;omega),Sd.start_eq (by omega)];rfl
  ·rw[H5.q,if_pos (by rw[ea];show(0:Int)<eh p 45;omega),Sd.start_eq (by omega)];rfl
 refine⟨⟨rfl,⟨p,m,d,hM,p2,hi,k,0,cd s5,F5,_,B5,c5,vM JZ,hT,?_,one,r1,two,r2,s3,r3,s4,r4,s5,r5⟩,rfl,rfl,rfl⟩,λy g=>aM (λe=>ayu jJ ha hb y ?_) (λ_=>hK)⟩
 ·show(0:Int)<=_;exact vW (by omega) (Int.le_max_left (eh p 45) (eh p 44))
 ·have:=of_decide_eq_true e;split at this
  ·exact vW this (Int.le_max_right _ _)
  ·exact vW this (Int.le_max_left _ _)
theorem ayv (hr:Wz x u) (h0:0<=x0/\x0<=255) (hK:K (.bool true)):∃a b r0,Pk (aq ay) tg tc u x f x0 K a b r0:=by
 rcases agx h0 with e0|e0|e0
 ·exact⟨1,2,0,by rw[ayi];exact⟨⟨rfl,rfl,rfl,rfl⟩,hr,λp m d hM=>⟨e0,by decide,Ya hM (by decide) (by decide) (by decide) rfl rfl hK⟩⟩⟩
 ·exact⟨2,3,1,by rw[ayj];exact⟨⟨rfl,rfl,rfl,rfl⟩,hr,λp m d hM=>⟨e0,by decide,Ya hM (by decide) (by decide) (by decide) rfl rfl hK⟩⟩⟩
 ·exact⟨3,1,2,by rw[ayk];exact⟨⟨rfl,rfl,rfl,rfl⟩,hr,λp m d hM=>⟨e0,by decide,Ya hM (by decide) (by decide) (by decide) rfl rfl hK⟩⟩⟩
end
theorem ayw {W:ag} {tg tc:aJ} (hG:W.heap[1]?=some (.cells (aE .u32 64 cT) tg (0,0))) (hC:W.heap[0]?=some (.cells #[.bool false,.bool false,.bool false,.bool false,.bool false,.bool false,.bool false,.bool false,.bool false,.bool false,.bool true,.bool true] tc (0,0)))
 (q:Nat->Int) (ka:Nat->Option aQ) (kn kc:Nat->Nat) (hr:∀j,j<4->kE W (ka j) (kn j) (kc j) (fb W (ka j))) {x0:Int} (h0:0<=x0/\x0<=255):
 aV prog 8 #[.agg (oV ⟨q,λ_=>(0,λ_=>0)⟩ ka kn kc).toArray,.int .u8 x0] W λv w1=>v=.bool true/\Ch [] W w1:=by
 have S:=agv hG hC;obtain⟨a,b,r0,cS⟩:=ayv (tg:=tg) (tc:=tc) (u:=W) (x:=⟨q,ka,kn,kc⟩) (f:=λ_=>(0,λ_=>0)) (K:=λv=>v=.bool true) ⟨hr 0 (by decide),hr 1 (by decide),hr 2 (by decide),hr 3 (by decide)⟩ h0 rfl;have cV:(aH [1,0] [.agg [.dz ⟨q,λ_=>(0,λ_=>0)⟩ ka kn kc],.int .u8 x0]).toArray=#[.agg (oV ⟨q,λ_=>(0,λ_=>0)⟩ ka kn kc).toArray,.int .u8 x0]:=by
  simp only[aH,den,ai,cl,cH]
 rw[<-cV];refine(eO (C:=qY prog gS (Pj (aq ay)) (JR (gTz r0)) Pe (agy tg tc W ⟨q,ka,kn,kc⟩ (λ_=>(0,λ_=>0)) a b)) XO.T XO.Q 60 agw rfl S cS).mono ?_;rintro v w' ⟨x,more,bl',ch',rfl,h1,S',rfl⟩;exact⟨rfl,S'.ch⟩
end
end Go.Proofs.YtggfpcggakghnaaGreatDoor
namespace Go.Proofs.YtggfpcggakghnaaGreatDoor.coreTimes
open Go.ChangeShapes Go.WideShapes Go.ChangeAt Go.RowKit Go.Joins Sd Sx
theorem opened (H:Type) (enc:aJ×ae->H) (W:ag) (args:Array ae) (ds gs:List (DataW H)) (before:List MemPlace)
 (um:∀(j:Nat) t v,Tryz.f8.params[j]?=some t->args[j]?=some v->AS prog W .any 0 t v)
 (hW:DataW.Whole enc prog Tryz.f8.params.toList Rows.coreTimesSpec.vars false W args.toList ds gs before) (hL:laidMetH prog On W):
 Rows.coreTimesSpec.fn H (ds++gs)={results:=[.lit (.bool true)],args:=ds,vars:=[]}/\Calls prog 8 args W λe W'=>e=.returned (.bool true)/\Below W.heap.size W W':=by
 obtain⟨p,q,hA,hV,rfl,xZ,tB⟩:=hW;obtain⟨tG,hG⟩:=aeO hL;obtain⟨tC,hC⟩:=aeZ hL;rw[Tryz.params8]at hA um;obtain⟨v0,v1,d0,d1,p0,p1,cV,rfl,_,Fg,Ot⟩:=trodAll_two hA;obtain rfl:args=#[v0,v1]:=by cases args;simp_all
 obtain⟨rfl,rfl⟩:=trodVars_none hV;obtain⟨pq,ka,kn,kc,rfl,hk⟩:=ae0 (um 0 28 v0 rfl rfl) (λn=>by obtain⟨fuel,h⟩:=Fg;exact Sx.Jj n h);obtain⟨y,rfl,hy⟩:=aeW Tryz.underlying5 (aeU Tryz.underlying5 rfl (um 1 5 v1 rfl rfl));exact⟨rfl,Sx.YI (ayw hG hC pq ka kn kc hk hy)⟩
theorem own:ownKnob prog.godebug=none:=by kernel_rfl
def yn:List (String×DataW Unit):=[("sidestick/gate.commands",Rows.laid_sidestick_gate_commands),("sidestick/sha.roots",Yy)]
theorem Yh (os:Os) (args:Array ae):laidMetH prog yn ((YA prog 400 os).forCall (λ_ _=>0) ⟨#[],args,[]⟩).memory:=
 laidMetH_of_parts3 (fuel:=8) (laidMet_of_run' 8 (by kernel_rfl) (by kernel_rfl)) (by kernel_rfl) (by kernel_rfl)
theorem lifted (os:Os) (started:os.Started) (H:Type) (enc:aJ×ae->H):
 ReturnsInHanded {} Ki os 8 .any (λw args=>(Rows.coreTimesSpec.pre enc prog Tryz.f8 [] false w args/\laidMetH prog yn w)/\sizedMet enc prog Tryz.f8 (OpenSpec.ofChange Rows.coreTimesSpec) false w args)
  (Rows.coreTimesSpec.post enc prog Tryz.f8 false true false false):=by
 refine returnsInHanded_of_change_and (C:=Ki) (X:=λw _=>laidMetH prog yn w) (λ_ _ _ hh h=>h.of_heap hh) own started (by kernel_rfl) Tryz.func8
  (ChangeSpec.witness_shaped (enc:=enc) (C:=Ki) (os:=os) (X:=λw _=>laidMetH prog yn w) false (YA prog 400 os) #[.agg #[.int .i64 0,.int .i64 0,.int .i64 0,.int .i64 0,.int .i64 0,.slice none 0 0,.slice none 0 0,.slice none 0 0,.slice none 0 0,.int .i64 0,.int .i64 0,.int .i64 0,.int .i64 0,.int .i64 0,.int .i64 0,.int .i64 0,.int .i64 0,.int .i64 0,.int .i64 0,.int .i64 0,.int .i64 0,.int .i64 0,.int .i64 0,.int .i64 0,.int .i64 0,.int .i64 0,.int .i64 0,.int .i64 0,.int .i64 0,.int .i64 0,.int .i64 0,.int .i64 0,.int .i64 0,.int .i64 0,.int .i64 0,.int .i64 0,.int .i64 0,.int .i64 0,.int .i64 0,.int .i64 0,.int .i64 0,.int .i64 0,.int .i64 0,.int .i64 0,.int .i64 0,.int .i64 0,.int .i64 0,.int .i64 0,.int .i64 0,.int .i64 0,.int .i64 0,.int .i64 0,.int .i64 0,.int .i64 0,.int .i64 0,.int .i64 0],.int .u8 0] 8 rfl (World.shaped_of_RefB (by kernel_rfl) (by kernel_rfl)) (by kernel_rfl) (by kernel_rfl) (by kernel_rfl) (Yh os _)) ?_
 intro W base args ds gs before um hW _ _ hL _;obtain⟨hs,hc⟩:=opened H enc W args ds gs before um hW hL;refine hc.mono λe W' ⟨he,hb⟩=>⟨_,he,?_⟩;exact aeS (by kernel_rfl) (by kernel_rfl) rfl (by kernel_rfl) Tryz.underlying4 hs hW hb
end Go.Proofs.YtggfpcggakghnaaGreatDoor.coreTimes
namespace Go.Proofs.YtggfpcggakghnaaGreatDoor.coreTimes
theorem closed:joinedFacts Tryz.pinned.checked.prog 8 Tryz.f8 Rows.coreTimesSpec Rows.coreTimesRow=true:=by kernel_rfl
open Go.ChangeShapes Go.WideShapes Go.ChangeAt Go.RowKit Go.Joins Sd Sx
theorem said:Rows.CoreTimesSaid:=
 OpenClaim.holds_of_wide 8 Tryz.f8 rfl rfl rfl rfl rfl rfl rfl ⟨rfl,rfl,rfl,rfl,rfl⟩ rfl rfl rfl rfl rfl (by kernel_rfl) Tryz.func8 closed
  (of_decide_eq_true (by kernel_rfl)) (by unfold Func.isWrapper;first|(rw[if_pos (by decide+kernel)];kernel_rfl)|(rw[if_neg (by decide+kernel)];exact⟨rfl,rfl⟩))
  (λos started H enc _=>lifted os started H enc)
theorem proved:Rows.CoreTimesCardSaid:=
 Claim7.holds_tied_plain_at .later [] [.data,.data] true Rows.coreTimesCard.stood.harness true
  said (λ_ h=>by cases h) (by kernel_rfl) (λ_ h=>by cases h) coreTimes_row_tie rfl ⟨rfl,rfl⟩ (by kernel_rfl) rfl
  (λf fn hf Bj=>by
   obtain rfl:f=8:=cG ((show prog.funcNamed "sidestick/sidesticklaw24.CoreTimes" =some 8 by kernel_rfl).symm.trans hf)|>.symm;obtain rfl:fn=Tryz.f8:=(cG (Tryz.func8.symm.trans Bj)).symm;exact⟨by kernel_rfl,λj t ht=>by
    have dw:(Tryz.f8.params.toList.all λu=>!prog.wantsStandIn u)=true:=by kernel_rfl
    have hm:t∈Tryz.f8.params.toList:=by simpa using Array.mem_of_getElem? ht
    exact(show prog.wantsStandIn t=false by simpa using gm.1 dw t hm)⟩)
  (by kernel_rfl)
end Go.Proofs.YtggfpcggakghnaaGreatDoor.coreTimes
