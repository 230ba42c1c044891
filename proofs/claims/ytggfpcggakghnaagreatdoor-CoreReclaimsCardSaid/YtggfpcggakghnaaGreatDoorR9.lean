/- CoreReclaims: texts printed small. -/
import Derived.Test.YtggfpcggakghnaaGreatDoorCards
import Derived.Test.YtggfpcggakghnaaGreatDoorTie
import Derived.Lib.SmallJoins
import Derived.SevenTiedAt
import Derived.LaidMore
import Derived.Stop.Joined
import Derived.Test.YtggfpcggakghnaaGreatDoorRows
import Derived.ProofKit
import Derived.Test.YtggfpcggakghnaaGreatDoorR8
set_option linter.all false
set_option maxRecDepth 100000
set_option maxHeartbeats 4000000
open Go.Proofs.Tryz
open Go.IntKind (u8 u16 u32 u64 i64)
open Go renaming TypeId->aJ,Addr->aQ,Value->ae,World->ag
open Go.Proofs.Tryz renaming checked->Ki
open Go.Proofs.YtggfpcggakghnaaGreatDoor.Rows renaming laid_sidestick_sha_roots->Yy
open Go.Value renaming okWide->AS
open Go.World renaming doorLaid->YA
open Int renaming tmod_eq_emod_of_nonneg->FK,ofNat->db
open List renaming append_nil->cH,all_eq_true->gm
open Nat renaming beq->az,eq_of_beq_eq_true->cz,le_add_right->yv
open Option.some renaming inj->cG
namespace Go.Proofs.YtggfpcggakghnaaGreatDoor
section
open Go Go.RowKit Go.BigFrame Sx Vx
def JW {G:Type}:dc G:=λargs bl ch K=>match args with
 |[.agg pl,.int .i64 a,.int .i64 b]=>cond (xX pl 0) (K (.bool (Sd.eV (nP pl x_) a b)) bl ch) False
 |_=>False
theorem ayl {G:Type} [Bl G] {gl:Nat->Option Nat}:Sound (G:=G) prog gl 22 JW:=by
 intro args ids bl ch R ms w0 w K hg hl S hc;unfold JW at hc;split at hc
 ·rename_i pl a b;cases XV:xX pl 0 with
  |false=>rw[XV]at hc;exact hc.elim
  |true=>
   rw[XV]at hc;have:=au6 gl [.agg [.dz (nP pl x_) (Fe ids pl) (iR pl) (xY pl)],.int .i64 a,.int .i64 b] bl True _ rfl trivial ids w hg ⟨hl,λi b hb=>(fV hl S hb).2⟩;have e:aH ids [.agg pl,.int .i64 a,.int .i64 b]=aH ids [.agg [.dz (nP pl x_) (Fe ids pl) (iR pl) (xY pl)],.int .i64 a,.int .i64 b]:=by
    simp only[aH,den,aeE XV x_ ids,ai,cl,cH];rfl
   rw[e];refine this.mono ?_;rintro v w' ⟨rfl,cB⟩;exact⟨.bool (Sd.eV (nP pl x_) a b),[],bl,ch,rfl,by simpa using hl,by simpa using S.quiet cB,hc⟩
 ·exact hc.elim
theorem aym {G:Type}:ia (JW (G:=G)):=by
 intro args bl ch K hc;unfold JW at hc⊢;split at hc
 ·revert hc;cases xX _ 0 with
  |false=>exact λh=>h.elim
  |true=>exact λhc=>⟨hc,[],by simp⟩
 ·exact hc.elim
def XW (C:Sd.aK):List (bR (LG bN)):=⟨22,true,JW⟩::Pj C
theorem agA:aI prog gS (XW (aq ay)):=aI.cons ⟨ayl,λ_=>aym⟩ XO
def dG (p:Nat->Int) (i:Nat):Int:=bif az i 43 then i64.wrap (1+(p 43).tmod 20)else bif az i 42 then i64.wrap (2+i64.wrap (p 41*4))else na p i
def oN (k1 k2 k3:Sd.ao) (i:Nat):Sd.ao:=match i with|1=>k1|2=>k2|_=>k3
def k4Z (kz:Nat->Sd.ao):VB:=⟨true,⟨78,(0,0)⟩,.arr .u8 32 (λ_=>0)::(ints 32 (kz 1)++(ints 32 (kz 2)++ints 32 (kz 3)))⟩
def ayn (s:Sd.aa) (c:Nat) (z:Option aQ):VB:=⟨true,⟨50,(0,0)⟩,ua s (.gp 17 0 s.c.q.length c z)⟩
structure sU (tg tc:aJ) (u:ag) (x:gk) (a b e:Int) (bn en:Nat) where
 p:Nat->Int
 m:Nat->Nat
 d:Nat->Nat
 hM:Made x p m
 p2:Sd.aO
 hp:∀i,i<56->iE i=false->p2.i i=dG p i
 k:LK
 j:Nat
 s:Sd.aa
 F:aX bN (aU k s)
 fB:List aj
 hB:lz tg tc k s F
 c:Sd.Core
 aP:s.at_ c []
 j6:Int
 sV:Int
 C2:(j6=b/\sV=e)\/(j6=e/\sV=b)
 hT:Sd.RS p2 a b e j6 sV (p2.ah+1) (dG p 42) (dG p 43) p2.start ⟨2,4,0⟩ j c
 hj:(j:Int)+1<=dG p 42+dG p 43-1
 kz:Nat->Sd.ao
 sb:Sd.f_ c b (kz bn) 1 ((j:Int)+1)
 sd:Sd.f_ c e (kz en) 1 ((j:Int)+1)
 s4:Sd.aa
 t4:TR
 s5:Sd.aa
 t5:TR
 s6:Sd.aa
 t6:TR
 h6e:s6.c.t.ah=p2.ah+1
 h6m:s6.c.d_=⟨2,4,0⟩
 zz:Option aQ
 zc:Nat
 zt:Nat
 zu:List ae
section
variable(C:Sd.aK) (tg tc:aJ) (u:ag) (x:gk) (f:Nat->Nat×Sd.ao) (x0:Int) (K:V->Prop) (a b e:Int) (an bn en:Nat)
def XY (y:sU tg tc u x a b e bn en):List V:=[.ptr 7 0,.int .i64 a,.int .i64 b,.int .i64 e,.ptr 8 0,.ptr 10 0,.int .i64 y.j6,.ptr 18 0,.int .i64 ((y.j:Int)+1)]
def XZ (kz:Nat->Sd.ao) (s4:Sd.aa) (t4:TR) (s5:Sd.aa) (t5:TR) (s6:Sd.aa) (t6:TR) (zz:Option aQ) (zc zt:Nat) (zu:List ae):List VB:=[k4Z kz,t4.sB s4,t4.rB s4,t5.sB s5,t5.rB s5,t6.sB s6,t6.rB s6,Af zt 1 s6.c.q.length (uf s6.c.q) zu,ayn (cd s6) zc zz]
def X0 (y:sU tg tc u x a b e bn en):List VB:=Fz tg tc x f u y.m y.d (gw 3 (dG y.p) y.m y.d) y.k y.s++XZ y.kz y.s4 y.t4 y.s5 y.t5 y.s6 y.t6 y.zz y.zc y.zt y.zu
def X1 (y:sU tg tc u x a b e bn en):List (LG bN):=[.a_ u,.core (bj y.k y.s y.F) y.fB]
def rzM (y:sU tg tc u x a b e bn en):Nat:=200-y.j
def ayo:Lp (LG bN):=D6 (X:=sU tg tc u x a b e bn en) (rzM tg tc u x a b e bn en) 248 19 [6,7,8,9,10,12,14,16,17] (XY tg tc u x a b e bn en) (X0 tg tc u x f a b e bn en) (X1 tg tc u x a b e bn en) (λ_=>rfl) (λ_=>by kernel_rfl) (λ_=>rfl)
def agB:Nat->List V->Option (Lp (LG bN)):=λi _=>bif az i 2 then some (ayo tg tc u x f a b e bn en)else none
def ayp (y:sU tg tc u x a b e bn en) (s:Sd.aa) (F:aX bN (aU y.k s)) (fB:List aj):Prop:=true=true/\BA (rzM tg tc u x a b e bn en) (XY tg tc u x a b e bn en) (X0 tg tc u x f a b e bn en) (X1 tg tc u x a b e bn en) y [.ptr 7 0,.int .i64 a,.int .i64 b,.int .i64 e,.ptr 8 0,.ptr 10 0,.int .i64 y.j6,.ptr 18 0,.int .i64 (i64.wrap ((y.j:Int)+1+1))]
 (Fz tg tc x f u y.m y.d (gw 3 (dG y.p) y.m y.d) y.k s++XZ y.kz y.s4 y.t4 y.s5 y.t5 y.s6 y.t6 y.zz y.zc y.zt y.zu) [.a_ u,.core (bj y.k s F) fB]
def Pm (s:Sd.aa) (a:Int) (X:Bool->Prop):Prop:=(0<=a/\a<(5:Nat))/\a.toNat<5/\X (QJ [(dA s.c.af).on 0,(dA s.c.af).on 1,(dA s.c.af).on 2,(dA s.c.af).on 3,(dA s.c.af).on 4] a.toNat)
def X2 (y:sU tg tc u x a b e bn en):Prop:=Ph tg tc 9 y.k y.s y.F ((bP y.s).tick C) λs2 r2 nQ F2=>
 vL C tg tc 9 y.k (cd s2) F2 (y.kz bn) b {Sd.c_ 3 with seq:=i64.wrap (1+((y.j:Int)+1))} λs3 r3 JV F3=>
 vL C tg tc 9 y.k (cd s3) F3 (y.kz en) e {Sd.c_ 3 with seq:=i64.wrap (1+((y.j:Int)+1))} λs7 r7 fn7 F7=>
 Pc tg tc 9 y.k (cd s7) (cond (s7.c.t.aG !=a) (jO K) (Pm s7 a λo=>cond (o !=decide ((y.j:Int)+1<dG y.p 42)) (jO K) (Pm s7 b λo=>cond (!o) (jO K) (Pm s7 e λo=>cond (!o) (jO K) (cond (!(OA s7.c.d_ y.s6.c.d_)) (jO K)
  (ayp tg tc u x f a b e bn en y (cd s7) F7 (fn7++(JV++(nQ++y.fB)))))))))
def X3 (y:sU tg tc u x a b e bn en):Prop:=Ph tg tc 9 y.k y.s y.F ((bP y.s).tick C) λs2 r2 nQ F2=>Pc tg tc 9 y.k (cd s2) (Pd tg s2 r2 (nQ++y.fB) y.j6 λX5=>
 cond (s2.c.t.aG==y.j6) (cond (s2.c.t.ah==i64.wrap (y.s6.c.t.ah+1)) (cond (s2.c.mode==dG y.p 41) (cond (OA s2.c.d_ ⟨3,4,0⟩) (cond (x4E s2.c.pt.aT ⟨0,0,0,0⟩) (cond ((X5.length:Int)==1)
  (JU X5 (cond (C5 (X5.getD 0 default) {kind:=133,ah:=s2.c.t.ah}) (K (.bool ((s2.c.q.length:Int)==1))) (jO K))) (jO K)) (jO K)) (jO K)) (jO K)) (jO K)) (jO K))
def X6 (p:Nat->Int) (m d:Nat->Nat) (k:LK) (kz:Nat->Sd.ao) (s4:Sd.aa) (t4:TR) (s5:Sd.aa) (t5:TR) (s6:Sd.aa) (t6:TR) (F6:aX bN (aU k (cd s6))) (fB6:List aj) (j6:Int):Prop:=
 vF tg tc 9 k (cd s6)/\∀(zz:Option aQ) (zc zt:Nat) (zu:List ae),cond (s6.c.t.aG !=a) (jO K) (cond ((s6.c.q.length:Int)!=2) (jO K)
  ((true=true/\Bz (XY tg tc u x a b e bn en) (X0 tg tc u x f a b e bn en) (X1 tg tc u x a b e bn en) [.ptr 7 0,.int .i64 a,.int .i64 b,.int .i64 e,.ptr 8 0,.ptr 10 0,.int .i64 j6,.ptr 18 0,.int .i64 1] (Fz tg tc x f u m d (gw 3 (dG p) m d) k (cd s6)++XZ kz s4 t4 s5 t5 s6 t6 zz zc zt zu) [.a_ u,.core (bj k (cd s6) F6) fB6])/\
  ∀(y:sU tg tc u x a b e bn en) (g:Nat->ae),cond (decide ((y.j:Int)+1<i64.wrap (i64.wrap (dG y.p 42+dG y.p 43)-1))) (X2 C tg tc u x f K a b e bn en y) (X3 C tg tc u x K a b e bn en y)))
def X7 (p:Nat->Int) (m d:Nat->Nat):Prop:=XH tg tc u x (gw 3 (dG p) m d) m λp2 k F=>
 yk C tg tc 9 k (gQ p2) F (m 0) (m 0+d 0) (vE x u 0) 1 1 λs1 k1 r1 F1 Pg=>
 yk C tg tc 9 k s1 F1 (m 1) (m 1+d 1) (vE x u 1) 2 1 λs2 k2 r2 F2 vN=>
 yk C tg tc 9 k s2 F2 (m 2) (m 2+d 2) (vE x u 2) 3 1 λs3 k3 r3 F3 Pn=>
 vL C tg tc 9 k s3 F3 (oN k1 k2 k3 an) a {Sd.c_ 5 with seq:=1} λs4 r4 C6 F4=>
 vL C tg tc 9 k (cd s4) F4 (oN k1 k2 k3 bn) b {Sd.c_ 5 with seq:=1} λs5 r5 C7 F5=>
 vL C tg tc 9 k (cd s5) F5 (oN k1 k2 k3 en) e {Sd.c_ 5 with seq:=1} λs6 r6 Po F6=>
 cond (Sd.eV (nP (gw 3 (dG p) m d) x_) e b) (X6 C tg tc u x f K a b e bn en p m d k (oN k1 k2 k3) s4 r4 s5 r5 s6 r6 F6 (Po++(C7++(C6++Pn))) e) (X6 C tg tc u x f K a b e bn en p m d k (oN k1 k2 k3) s4 r4 s5 r5 s6 r6 F6 (Po++(C7++(C6++Pn))) b)
def gRz (r0:Nat) (i:Nat):Nat:=bif az i 37 then r0 else bif az i 40 then(1+r0)%3 else(1+(1+r0)%3)%3
def Pp (r0:Nat):Prop:=br (qY prog gS (XW C) (JR (gRz r0)) Pe (agB tg tc u x f a b e bn en)) 60 7 [.agg [.dz ⟨x.q,f⟩ x.ka x.kn x.kc],.int .u8 x0] [j5 tg,nK tc] [.a_ u] (λv _ _=>K v)
def X8 (r0:Nat):Prop:=shP tg tc ((jL x u 0/\jL x u 1/\jL x u 2/\jL x u 3)/\∀(p:Nat->Int) (m d:Nat->Nat),Made x p m->
 ((i64.wrap x0).tmod 3=db r0/\a.tmod 3=db ((1+r0)%3)/\b.tmod 3=db ((1+(1+r0)%3)%3)/\X7 C tg tc u x f K a b e an bn en p m d))
end
section
variable(C:Sd.aK) (tg tc:aJ) (u:ag) (x:gk) (f:Nat->Nat×Sd.ao) (x0:Int) (K:V->Prop)
theorem ayq:Pp C tg tc u x f x0 K 1 2 3 2 3 0=X8 C tg tc u x f x0 K 1 2 3 1 2 3 0:=by kernel_rfl
theorem ayr:Pp C tg tc u x f x0 K 2 3 1 3 1 1=X8 C tg tc u x f x0 K 2 3 1 2 3 1 1:=by kernel_rfl
theorem ays:Pp C tg tc u x f x0 K 3 1 2 1 2 2=X8 C tg tc u x f x0 K 3 1 2 3 1 2 2:=by kernel_rfl
end
section
variable{tg tc:aJ} {it:Nat} {k:LK} {s:Sd.aa} {F:aX bN (aU k s)} {c:Sd.Core}
theorem X9 {X:(s':Sd.aa)->TR->List aj->aX bN (aU k (cd s'))->Prop} (hB:lz tg tc k s F) (hX:∀s',s'=s.tick (aq ay)->∀(r:TR) (fn:List aj) (F0:aX bN (aU k (cd s'))),lz tg tc k (cd s') F0->lx bN s'.bg r.fv fn->(∀y∈s'.bg,Sd.ow y)/\s'.bg.length<=1000->X s' r fn F0):Ph tg tc it k s F ((bP s).tick (aq ay)) X:=by
 refine⟨hB.cF,hB.co,?_⟩;rw[ph];intro s' e r fn F0 v1 v2 hf;have hE:=(Sd.ad2 (C:=aq ay) (b:=False) hB.c.i).1;have hq:s.c.q.length<=3:=by have:=hB.c.i.q.len;have:=hB.c.i.p.queue;omega
 refine hX s' e r fn F0 ⟨hB.tg,hB.tc,?_,hB.kR,?_,v1,v2⟩ hf ⟨?_,?_⟩
 ·show s'.c.p.queue=k.most;rw[e,Wd hE];exact hB.q
 ·rw[e];exact hB.c.tick
 ·rw[e];exact hE.agi hB.c.e1
 ·have:=(Sd.axv (aq ay) s hq (adT _).2).2;rw[hB.c.e1]at this;rw[e];simp at this;omega
theorem X_ {s':Sd.aa} {r:TR} {fB:List aj} {l:Int} {X:List Sd.aF->Prop} (hf:lx bN s'.bg r.fv fB) (hs:(∀y∈s'.bg,Sd.ow y)/\s'.bg.length<=1000) (hX:X (Sd.dT s'.bg l)):Pd tg s' r fB l X:=
 ⟨s'.bg,r.fv,⟨rfl,rfl,rfl,hs.1,hs.2,hf,tg,rfl⟩,λrs e x' c' ty us=>by rw[e];exact hX⟩
end
theorem ayt (c:Sd.Core) (k:Int) (m:Sd.a9):(Sd.At c k m).1.af=c.af:=by
 unfold Sd.At;split
 ·rfl
 split
 ·unfold Sd.pa;dsimp only;split
  ·rfl
  ·split<;>rfl
 split
 ·unfold Sd.CZ;dsimp only;split<;>rfl
 split
 ·unfold Sd.OL;dsimp only;split<;>rfl
 split
 ·unfold Sd.OM;dsimp only;split<;>rfl
 ·unfold Sd.ON;dsimp only;split<;>rfl
theorem FA (C:Sd.aK) (c:Sd.Core) (k:Int) (m:Sd.a9):(Sd.fp C c k m).1.af=c.af.eK C c.p k m.seq:=ayt _ _ _
theorem agD {r:Sd.aF} {l:List Sd.aF} {X:Prop} (h:X):JU (r::l) X:=⟨⟨Int.le_refl _,by show(0:Int)<((l.length+1:Nat):Int);omega⟩,⟨by show 0<l.length+1;omega,λj=>rfl⟩,h⟩
section
variable{tg tc:aJ} {u:ag} {x:gk} {f:Nat->Nat×Sd.ao} {x0:Int} {K:V->Prop} {a b:Int}
end
theorem Ps {x:gk} {p:Nat->Int} {m:Nat->Nat} (hM:Made x p m):AQ p (dG p)/\(2<=dG p 42/\dG p 42<=18)/\1<=dG p 43/\dG p 43<=20:=by
 have h:=agt hM;have h43:=hM.I.ti 43 (by decide) (by decide);have h41:0<=p 41/\p 41<=4:=by
  have e:p 41=dt (x.q 41) 5:=hM.I.lo 41 (by decide);have:=CL (x.q 41) (m:=5) (by decide) (by decide);omega
 have Pt:2<=dG p 42/\dG p 42<=18:=by
  show 2<=i64.wrap (2+i64.wrap (p 41*4))/\i64.wrap (2+i64.wrap (p 41*4))<=18;rw[kQ (x:=p 41*4) (by omega),kQ (by omega)];omega
 have FB:1<=dG p 43/\dG p 43<=20:=by
  show 1<=i64.wrap (1+(p 43).tmod 20)/\i64.wrap (1+(p 43).tmod 20)<=20;rw[FK (by omega),kQ (by omega)];omega
 have e:∀i,i≠43->i≠42->dG p i=na p i:=λi h1 h2=>by
  unfold dG;have b1:az i 43=false:=by cases h:az i 43 with|false=>rfl|true=>exact absurd (cz h) h1
  have b2:az i 42=false:=by cases h:az i 42 with|false=>rfl|true=>exact absurd (cz h) h2
  rw[b1,b2];rfl
 refine⟨⟨λi hi=>by rw[e i (by omega) (by omega)];exact h.lo i hi,h.r9,λi hi=>by rw[e i (by omega) (by omega)];exact h.AA i hi,λi hi=>by rw[e i (by omega) (by omega)];exact h.af i hi,λi hi=>by rw[e i (by omega) (by omega)];exact h.gr i hi,λi hi=>by rw[e i (by omega) (by omega)];exact h.mo i hi,λi h1 h2=>?_,h.be,λi h1 h2=>by rw[e i (by omega) (by omega)];exact h.qs i h1 h2,λi hi=>by rw[e i (by omega) (by omega)];exact h.li i hi,h.ep⟩,Pt,FB⟩;by_cases h5:i=43
 ·subst h5;omega
 by_cases h4:i=42
 ·subst h4;omega
 ·rw[e i h5 h4];exact h.ti i h1 h2
theorem Yb {s:Sd.aa} {a:Int} {X:Bool->Prop} (ha:1<=a/\a<=3) (h:X (s.c.af.cj a)):Pm s a X:=by
 refine⟨by omega,by omega,?_⟩;rw[<-Sd.vH ha]at h;rcases(by omega:a=1\/a=2\/a=3)with rfl|rfl|rfl<;>exact h
theorem agE {c:Sd.Core} {p:Sd.aO} {a b e x y E B L m:Int} {bx:Sd.Label} {j:Nat} (h3:Sd.uj a b e) (hB:1<B) (h:Sd.RS p a b e x y E B L m bx j c):c.af.tick.cj a=decide ((j:Int)+1<B)/\c.af.tick.cj b=true/\c.af.tick.cj e=true:=by
 have ob:c.af.fA (b.toNat-1)=false:=by rw[Sd.sR _ h3.lb,h.af.ob,h.af.sb,Sd.step_eq (by omega),Sd.sQ (by omega)];rfl
 have od:c.af.fA (e.toNat-1)=false:=by rw[Sd.sR _ h3.ld,h.af.od,h.af.sd,Sd.step_eq (by omega),Sd.sQ (by omega)];rfl
 refine⟨?_,by rw[Sd.Aw h3.lb,ob,h.af.ob];rfl,by rw[Sd.Aw h3.ld,od,h.af.od];rfl⟩;by_cases hj:(j:Int)<B
 ·have:=(Sd.afV h3 h.af hB ⟨by omega,hj⟩).2.2.1;rw[this,decide_eq_true hj,Bool.true_and]
 ·rw[Sd.Aw h3.la,h.af.oa,decide_eq_false hj,decide_eq_false (by omega)];rfl
section
variable{tg tc:aJ} {u:ag} {x:gk} {f:Nat->Nat×Sd.ao} {x0:Int} {K:V->Prop} {a b e:Int} {an bn en:Nat}
theorem agF (h3:Sd.uj a b e) (y:sU tg tc u x a b e bn en):y.j6≠a/\y.sV≠a/\y.j6≠y.sV/\1<=y.j6/\y.j6<=3:=by
 have:=h3.ab;have:=h3.ad;have:=h3.bd;have:=h3.lb;have:=h3.ld
 rcases y.C2 with⟨h1,h2⟩|⟨h1,h2⟩<;>rw[h1,h2]<;>omega
theorem ayx (h3:Sd.uj a b e) (y:sU tg tc u x a b e bn en) (hj:(y.j:Int)+1<dG y.p 42+dG y.p 43-1):X2 (aq ay) tg tc u x f K a b e bn en y:=by
 obtain⟨hq,Pt,FB⟩:=Ps y.hM;have eb:y.p2.bV=dG y.p 42:=y.hp 42 (by decide) rfl;have el:y.p2.cW=dG y.p 43:=y.hp 43 (by decide) rfl;have ho:=agF h3 y;have fa:=agE h3 (by omega) y.hT;have ht:=Sd.axe (C:=aq ay) h3 ho.1 ho.2.1 (by omega) el FB.1 (by omega) hj y.hT y.aP fa.1;unfold X2;have hw:i64.wrap (1+((y.j:Int)+1))=(y.j:Int)+2:=by rw[kQ (by omega)];omega
 rw[hw];refine X9 y.hB λs2 e2 r2 nQ F2 B2 om qc=>?_;rw[<-e2]at ht;obtain⟨n1,n2,n3,n4,n5,n6,n7⟩:=Sd.axg (C:=aq ay) (n:=(y.j:Int)+2) (c1:={y.c with af:=y.c.af.tick,t:=⟨a,y.p2.ah+1,-1,.zero,if((y.j+1:Nat):Int)<dG y.p 42 then .zero else⟨((y.j+1:Nat):Int)-dG y.p 42+1,dG y.p 43⟩,false⟩,q:=Sd.ly y.p2 y.j6 y.sV (y.j+1:Nat),pt:=y.c.pt.step y.c.p}) (mb:={Sd.c_ 3 with seq:=(y.j:Int)+2}) (md:={Sd.c_ 3 with seq:=(y.j:Int)+2})
  ui h3 eb (by omega) (by omega) (by omega) y.hT y.sb y.sd rfl rfl rfl rfl rfl rfl ⟨rfl,rfl⟩ ⟨rfl,rfl⟩
 have hm3:kW {Sd.c_ 3 with seq:=(y.j:Int)+2}:=⟨by show 0<=(y.j:Int)+2/\(y.j:Int)+2<=4294967295;omega,.inl ⟨.inl rfl,rfl⟩⟩;refine AB B2 (vM ht) n1 hm3 (by show(y.j:Int)+1<(y.j:Int)+2;omega) λs3 r3 JV F3 B3 C8 hf3 JX=>?_;refine AB B3 (vM C8) n2 hm3 (by show(y.j:Int)+1<(y.j:Int)+2;omega) λs7 r7 fn7 F7 B7 Pu hf7 hs7=>XJ B7 ?_;have t7:=(yl Pu).1.trans n5.ct;have m7:=(yl Pu).2.2.2.1.trans n5.cb;have tb:=(yl Pu).2.2.2.2.1;refine nR (by rw[t7];simp) (Yb h3.la (nR ?_ (Yb h3.lb (nR ?_ (Yb h3.ld (nR ?_ (nR ?_ ?_)))))))
 ·rw[tb,n5.af.oa];show(decide ((y.j:Int)+1<dG y.p 42)!=decide ((y.j:Int)+1<dG y.p 42))=false;simp
 ·rw[tb,n5.af.ob];rfl
 ·rw[tb,n5.af.od];rfl
 ·rw[m7,y.h6m,ae4];rfl
 ·refine⟨rfl,{y with j:=y.j+1,s:=cd s7,F:=F7,fB:=_,hB:=B7,c:=_,aP:=vM Pu,hT:=n5,hj:=by show((y.j+1:Nat):Int)+1<=_;omega,sb:=n3,sd:=n4},?_,?_,rfl,rfl⟩
  ·show 200-(y.j+1)<200-y.j;omega
  ·rw[kQ (by omega)];rfl
theorem ayy (h3:Sd.uj a b e) (y:sU tg tc u x a b e bn en) (hj:¬(y.j:Int)+1<dG y.p 42+dG y.p 43-1) (m_:y.p2.ah<60000) (azL:0<=y.p2.ah) (hK:K (.bool true)):X3 (aq ay) tg tc u x K a b e bn en y:=by
 obtain⟨hq,Pt,FB⟩:=Ps y.hM;have el:y.p2.cW=dG y.p 43:=y.hp 43 (by decide) rfl;have e41:y.p2.lost=dG y.p 41:=y.hp 41 (by decide) rfl;have ho:=agF h3 y;have fa:=agE h3 (by omega) y.hT;have hj0:=y.hj;have Xg:y.c.af.tick.cj y.j6=true:=by
  rcases y.C2 with⟨h1,_⟩|⟨h1,_⟩<;>rw[h1]
  ·exact fa.2.1
  ·exact fa.2.2
 have Xf:y.c.af.tick.cj a=false:=by rw[fa.1];exact decide_eq_false (by omega)
 have ht:=Sd.axf (C:=aq ay) h3 ho.1 ho.2.1 ho.2.2.1 ho.2.2.2 (by omega) el FB.1 (by omega) (by omega) (by omega) y.hT y.aP Xf Xg;unfold X3;refine X9 y.hB λs2 e2 r2 nQ F2 B2 om qc=>XJ B2 (X_ (om.app _) qc ?_);rw[<-e2]at ht;have hE:=yl ht;have hg:Sd.dT s2.bg y.j6=[{kind:=133,ah:=y.p2.ah+1+1}]:=by rw[ht.2,Sd.OO]
 rw[hg,hE.1,hE.2.1,hE.2.2.1,hE.2.2.2.1,hE.2.2.2.2.2.2,y.h6e];have hp:y.c.p=y.p2:=y.hT.cp;refine Az (by simp) (Az (by rw[kQ (by omega)];simp) (Az (by rw[hp,e41];simp) (Az (ae4 _) (Az rfl (Az rfl (agD (Az ?_ hK)))))));exact agr _
theorem Yc {p:Nat->Int} {m d:Nat->Nat} (hM:Made x p m) (h3:Sd.uj a b e) (han:an=a.toNat) (hbn:bn=b.toNat) (hen:en=e.toNat) (hK:K (.bool true)):X7 (aq ay) tg tc u x f K a b e an bn en p m d:=by
 obtain⟨hq,Pt,FB⟩:=Ps hM;have hE:=XL hM;unfold X7;refine ags hM hq λp2 k F hB hi hk wL=>?_;have hA:=agu hq hi;have e55:p2.ah=na p 55:=hi 55 (by decide) rfl;have JX:p2.fj=3:=hi 49 (by decide) rfl;have zT:p2.queue=3:=hi 48 (by decide) rfl;have eb:p2.bV=dG p 42:=hi 42 (by decide) rfl;have ea:p2.ask=900:=hi 45 (by decide) rfl;have Fs:(gQ p2).at_ (Sd.Core.new p2) []:=⟨⟨_,rfl⟩,rfl⟩;refine JS hB Fs hA (by decide) (by decide) (hk 0 (by decide)) (wL 0 (by decide)) (yv _ _) (by show(0:Int)<4294967295;decide) (.inr (by show Sd.aw.new.many<p2.fj;rw[JX];decide)) λs1 k1 F1 Pg B1 XN e1=>?_;have o2:(Sd.dU (aq ay) (Sd.Core.new p2) 1 1).af.cj 2=false:=Sd.OQ (by decide) (by decide) (by decide) rfl;have o3:(Sd.dU (aq ay) (Sd.Core.new p2) 1 1).af.cj 3=false:=Sd.OQ (by decide) (by decide) (by decide) rfl;refine JS B1 XN hA (by decide) (by decide) (hk 1 (by decide)) (wL 1 (by decide)) (yv _ _) (by rw[Pf (by decide) (by decide) (by decide)];show(0:Int)<4294967295;decide) (.inr (by show(Sd.dU (aq ay) (Sd.Core.new p2) 1 1).af.many<p2.fj;rw[JX];exact XK (by decide) o2)) λs2 k2 F2 vN B2 JT e2=>?_;have o3':(Sd.dU (aq ay) (Sd.dU (aq ay) (Sd.Core.new p2) 1 1) 2 1).af.cj 3=false:=Sd.OQ (by decide) (by decide) (by decide) o3;refine JS B2 JT hA (by decide) (by decide) (hk 2 (by decide)) (wL 2 (by decide)) (yv _ _) (by rw[Pf (by decide) (by decide) (by decide),Pf (by decide) (by decide) (by decide)];show(0:Int)<4294967295;decide) (.inr (by show(Sd.dU (aq ay) (Sd.dU (aq ay) (Sd.Core.new p2) 1 1) 2 1).af.many<p2.fj;rw[JX];exact XK (by decide) o3')) λs3 k3 F3 Pn B3 C8 e3=>?_;have S1:Sd.f_ (Sd.dU (aq ay) (Sd.dU (aq ay) (Sd.dU (aq ay) (Sd.Core.new p2) 1 1) 2 1) 3 1) 1 k1 1 0:=Sd.OP (Sd.OP (by rw[e1];exact Sd.JH (by decide)) (by decide) (by decide)) (by decide) (by decide);have S2:Sd.f_ (Sd.dU (aq ay) (Sd.dU (aq ay) (Sd.dU (aq ay) (Sd.Core.new p2) 1 1) 2 1) 3 1) 2 k2 1 0:=Sd.OP (by rw[e2];exact Sd.JH (by decide)) (by decide) (by decide);have S3:Sd.f_ (Sd.dU (aq ay) (Sd.dU (aq ay) (Sd.dU (aq ay) (Sd.Core.new p2) 1 1) 2 1) 3 1) 3 k3 1 0:=by rw[e3];exact Sd.JH (by decide)
 have fw:(Sd.dU (aq ay) (Sd.dU (aq ay) (Sd.dU (aq ay) (Sd.Core.new p2) 1 1) 2 1) 3 1).af.cN.1=false:=rfl;have hc3:(Sd.dU (aq ay) (Sd.dU (aq ay) (Sd.dU (aq ay) (Sd.Core.new p2) 1 1) 2 1) 3 1).p=p2/\(Sd.dU (aq ay) (Sd.dU (aq ay) (Sd.dU (aq ay) (Sd.Core.new p2) 1 1) 2 1) 3 1).t=(Sd.Core.new p2).t/\(Sd.dU (aq ay) (Sd.dU (aq ay) (Sd.dU (aq ay) (Sd.Core.new p2) 1 1) 2 1) 3 1).q=[]/\(Sd.dU (aq ay) (Sd.dU (aq ay) (Sd.dU (aq ay) (Sd.Core.new p2) 1 1) 2 1) 3 1).mode=p2.start/\(Sd.dU (aq ay) (Sd.dU (aq ay) (Sd.dU (aq ay) (Sd.Core.new p2) 1 1) 2 1) 3 1).d_=⟨2,4,0⟩:=⟨rfl,rfl,rfl,rfl,rfl⟩;generalize Sd.dU (aq ay) (Sd.dU (aq ay) (Sd.dU (aq ay) (Sd.Core.new p2) 1 1) 2 1) 3 1=c3 at C8 S1 S2 S3 fw hc3;have hS:∀l:Int,1<=l/\l<=3->Sd.f_ c3 l (oN k1 k2 k3 l.toNat) 1 0:=λl hl=>by
  rcases(by omega:l=1\/l=2\/l=3)with rfl|rfl|rfl
  ·exact S1
  ·exact S2
  ·exact S3
 obtain⟨q1,q2,q3,q4,q5⟩:=hc3;subst han hbn hen;have H2:Sd.HS p2 a b (oN k1 k2 k3 a.toNat) (oN k1 k2 k3 b.toNat) 1 1 c3 0 0 (Sd.Core.new p2).t p2.start ⟨2,4,0⟩ []:=⟨q1,hS a h3.la,hS b h3.lb,q2,q3,q4,q5⟩;have m5:kW {Sd.c_ 5 with seq:=1}:=⟨by decide,.inr (.inl ⟨rfl,rfl⟩)⟩;refine AB B3 C8 H2.sa m5 (by show(0:Int)<1;decide) λs4 r4 C6 F4 B4 JY hf4 hs4=>?_;obtain⟨H3,L3⟩:=Sd.afz (C:=aq ay) (m:={Sd.c_ 5 with seq:=1}) ui H2 h3.ab rfl (by show(0:Int)<1/\(0:Int)<=1/\(1:Int)<=4294967295;decide) rfl rfl (by show p2.ah<65535;omega);have T4:=FA (aq ay) c3 a {Sd.c_ 5 with seq:=1};have Se4:Sd.f_ (Sd.fp (aq ay) c3 a {Sd.c_ 5 with seq:=1}).1 e (oN k1 k2 k3 e.toNat) 1 0:=((hS e h3.ld).other (C:=aq ay) (n:=1) h3.la h3.ad).tP T4;generalize (Sd.fp (aq ay) c3 a {Sd.c_ 5 with seq:=1}).1=c4 at JY H3 T4 Se4;refine AB B4 (vM JY) H3.sb m5 (by show(0:Int)<1;decide) λs5 r5 C7 F5 B5 JZ hf5 hs5=>?_;obtain⟨H4,L4⟩:=Sd.Xh (C:=aq ay) (m:={Sd.c_ 5 with seq:=1}) ui H3.swap h3.ab.symm rfl (by show(0:Int)<1/\(0:Int)<=1/\(1:Int)<=4294967295;decide) rfl (by show a≠4;have:=h3.la;omega) (by show b≠a;exact h3.ab.symm) rfl (by show p2.ah+1<65535;omega) rfl (by rw[zT];show(0:Int)<3;decide);have T5:=FA (aq ay) c4 b {Sd.c_ 5 with seq:=1};have Yd:Sd.f_ (Sd.fp (aq ay) c4 b {Sd.c_ 5 with seq:=1}).1 e (oN k1 k2 k3 e.toNat) 1 0:=(Se4.other (C:=aq ay) (n:=1) h3.lb h3.bd).tP T5;generalize (Sd.fp (aq ay) c4 b {Sd.c_ 5 with seq:=1}).1=c5 at JZ H4 T5 Yd;have H5:Sd.HS p2 e a (oN k1 k2 k3 e.toNat) (oN k1 k2 k3 a.toNat) 1 1 c5 0 1 _ _ _ _:=⟨H4.p,Yd,H4.sb,H4.t,H4.q,H4.m,H4.mb⟩;refine AB B5 (vM JZ) Yd m5 (by show(0:Int)<1;decide) λs6 r6 Po F6 B6 J0 hf6 hs6=>?_;obtain⟨H6,L6⟩:=Sd.Xh (C:=aq ay) (m:={Sd.c_ 5 with seq:=1}) ui H5 h3.ad.symm rfl (by show(0:Int)<1/\(0:Int)<=1/\(1:Int)<=4294967295;decide) rfl (by show a≠4;have:=h3.la;omega) (by show e≠a;exact h3.ad.symm) rfl (by show p2.ah+1<65535;omega) (by show(decide (b=e)||false)=false;rw[decide_eq_false h3.bd];rfl) (by rw[zT];simp[Sd.Q.insert]);have T6:=FA (aq ay) c5 e {Sd.c_ 5 with seq:=1};have Ye:Sd.f_ (Sd.fp (aq ay) c5 e {Sd.c_ 5 with seq:=1}).1 b (oN k1 k2 k3 b.toNat) 1 1:=(H4.sa.other (C:=aq ay) (n:=1) h3.ld h3.bd.symm).tP T6;generalize (Sd.fp (aq ay) c5 e {Sd.c_ 5 with seq:=1}).1=c6 at J0 H6 T6 Ye;have hq6:c6.q=if Sd.bb p2 e<Sd.bb p2 b then[⟨e,Sd.bb p2 e,⟨0,900⟩⟩,⟨b,Sd.bb p2 b,⟨0,900⟩⟩]else[⟨b,Sd.bb p2 b,⟨0,900⟩⟩,⟨e,Sd.bb p2 e,⟨0,900⟩⟩]:=by
  rw[H6.q];have e0:Sd.Q.insert [] ⟨b,Sd.bb p2 b,.start p2.ask⟩=[⟨b,Sd.bb p2 b,⟨0,900⟩⟩]:=by rw[ea,Sd.start_eq (by decide)];rfl
  rw[e0,ea,Sd.start_eq (by decide)];exact Sd.axj
 have Yf:∀k':Int,1<=k'/\k'<=3->k'=a\/k'=b\/k'=e->(c6.af.ak (k'.toNat-1)).cI=⟨0,dG p 42⟩:=λk' oU hor=>by
  have Yg:Sd.Timer.start p2.bV=⟨0,dG p 42⟩:=by rw[eb];exact Sd.start_eq (by omega)
  rw[T6,Sd.C3 h3.ld oU];by_cases h1:k'=e
  ·rw[if_pos h1,H5.p];exact Yg
  rw[if_neg h1,T5,Sd.C3 h3.lb oU];by_cases h2:k'=b
  ·rw[if_pos h2,H3.p];exact Yg
  rw[if_neg h2,T4,Sd.C3 h3.la oU,if_pos (by omega),q1];exact Yg
 have ayz:Sd.Xe c6.af (dG p 42) a b e 0 true:=⟨by rw[T6];show c5.af.cN.1=false;rw[T5];show c4.af.cN.1=false;rw[T4];exact fw,H6.sb.on,λ_=>Yf a h3.la (.inl rfl),Ye.on,Yf b h3.lb (.inr (.inl rfl)),H6.sa.on,Yf e h3.ld (.inr (.inr rfl))⟩;have hh:Sd.eV (nP (gw 3 (dG p) m d) x_) e b=decide (Sd.bb p2 e<Sd.bb p2 b):=by
  have pl:∀l,Sd.placeOf (nP (gw 3 (dG p) m d) x_) l=Sd.placeOf p2 l:=λl=>by
   have i0:∀i,i<5->(nP (gw 3 (dG p) m d) x_).i i=p2.i i:=λi hi5=>(Jf 3 (dG p) m d (by omega) (mZ (by omega))).trans (hi i (by omega) (mZ (by omega))).symm;unfold Sd.placeOf;rw[i0 0 (by decide),i0 1 (by decide),i0 2 (by decide),i0 3 (by decide),i0 4 (by decide)]
  have hpe:=Sd.KH hB.c.i.p e (by have:=h3.ld;omega) (by have:=h3.ld;omega);have hpb:=Sd.KH hB.c.i.p b (by have:=h3.lb;omega) (by have:=h3.lb;omega);unfold Sd.eV Sd.bb;rw[pl,pl];have n1:Sd.placeOf p2 e≠-1:=by have h:0<=Sd.placeOf p2 e/\_:=hpe;omega
  have n2:Sd.placeOf p2 b≠-1:=by have h:0<=Sd.placeOf p2 b/\_:=hpb;omega
  rw[decide_eq_true n1,decide_eq_true n2];rfl
 have go:∀j6 sV:Int,(j6=b/\sV=e)\/(j6=e/\sV=b)->c6.q=Sd.ly p2 j6 sV 0->X6 (aq ay) tg tc u x f K a b e b.toNat e.toNat p m d k (oN k1 k2 k3) s4 r4 s5 r5 s6 r6 F6 (Po++(C7++(C6++Pn))) j6:=by
  intro j6 sV C2 C1;refine⟨B6.cF,λzz zc zt zu=>?_⟩;have t6:=(yl J0).1.trans H6.t;have q6:=(yl J0).2.1.trans C1;refine nR (by rw[t6];show(a !=a)=false;simp) (nR (by rw[q6];rfl) ?_);refine⟨⟨rfl,⟨p,m,d,hM,p2,hi,k,0,cd s6,F6,_,B6,c6,vM J0,j6,sV,C2,⟨H6.p,?_,C1,?_,H6.m,H6.mb⟩,by show(0:Int)+1<=_;omega,oN k1 k2 k3,?_,?_,s4,r4,s5,r5,s6,r6,by rw[t6];rfl,(yl J0).2.2.2.1.trans H6.mb,zz,zc,zt,zu⟩,rfl,rfl,rfl⟩,λy g=>?_⟩
  ·rw[H6.t,if_pos (by show(0:Int)<dG p 42;omega)];rfl
  ·rw[decide_eq_true (show((0:Nat):Int)<dG p 42 by omega)];exact ayz
  ·exact Ye
  ·exact H6.sa
  ·obtain⟨_,c42,c43⟩:=Ps y.hM;have hw:i64.wrap (i64.wrap (dG y.p 42+dG y.p 43)-1)=dG y.p 42+dG y.p 43-1:=by
    rw[kQ (x:=dG y.p 42+dG y.p 43) (by omega),kQ (by omega)]
   have m_:=XL y.hM;have ey:y.p2.ah=na y.p 55:=y.hp 55 (by decide) rfl;rw[hw];exact aM (λh=>ayx h3 y (of_decide_eq_true h)) (λh=>ayy h3 y (of_decide_eq_false h) (by omega) (by omega) hK)
 rw[hh];refine aM (λh=>go e b (.inr ⟨rfl,rfl⟩) ?_) (λh=>go b e (.inl ⟨rfl,rfl⟩) ?_)
 ·rw[hq6,if_pos (of_decide_eq_true h)];rfl
 ·rw[hq6,if_neg (of_decide_eq_false h)];rfl
theorem ayA (hr:Wz x u) (h0:0<=x0/\x0<=255) (hK:K (.bool true)):∃a b e bn en r0,Pp (aq ay) tg tc u x f x0 K a b e bn en r0:=by
 rcases agx h0 with e0|e0|e0
 ·exact⟨1,2,3,2,3,0,by rw[ayq];exact⟨⟨rfl,rfl,rfl,rfl⟩,hr,λp m d hM=>⟨e0,by decide,by decide,Yc hM ⟨by decide,by decide,by decide,by decide,by decide,by decide⟩ rfl rfl rfl hK⟩⟩⟩
 ·exact⟨2,3,1,3,1,1,by rw[ayr];exact⟨⟨rfl,rfl,rfl,rfl⟩,hr,λp m d hM=>⟨e0,by decide,by decide,Yc hM ⟨by decide,by decide,by decide,by decide,by decide,by decide⟩ rfl rfl rfl hK⟩⟩⟩
 ·exact⟨3,1,2,1,2,2,by rw[ays];exact⟨⟨rfl,rfl,rfl,rfl⟩,hr,λp m d hM=>⟨e0,by decide,by decide,Yc hM ⟨by decide,by decide,by decide,by decide,by decide,by decide⟩ rfl rfl rfl hK⟩⟩⟩
end
theorem ayB {W:ag} {tg tc:aJ} (hG:W.heap[1]?=some (.cells (aE .u32 64 cT) tg (0,0))) (hC:W.heap[0]?=some (.cells #[.bool false,.bool false,.bool false,.bool false,.bool false,.bool false,.bool false,.bool false,.bool false,.bool false,.bool true,.bool true] tc (0,0)))
 (q:Nat->Int) (ka:Nat->Option aQ) (kn kc:Nat->Nat) (hr:∀j,j<4->kE W (ka j) (kn j) (kc j) (fb W (ka j))) {x0:Int} (h0:0<=x0/\x0<=255):
 aV prog 7 #[.agg (oV ⟨q,λ_=>(0,λ_=>0)⟩ ka kn kc).toArray,.int .u8 x0] W λv w1=>v=.bool true/\Ch [] W w1:=by
 have S:=agv hG hC;obtain⟨a,b,e,bn,en,r0,cS⟩:=ayA (tg:=tg) (tc:=tc) (u:=W) (x:=⟨q,ka,kn,kc⟩) (f:=λ_=>(0,λ_=>0)) (K:=λv=>v=.bool true) ⟨hr 0 (by decide),hr 1 (by decide),hr 2 (by decide),hr 3 (by decide)⟩ h0 rfl;have cV:(aH [1,0] [.agg [.dz ⟨q,λ_=>(0,λ_=>0)⟩ ka kn kc],.int .u8 x0]).toArray=#[.agg (oV ⟨q,λ_=>(0,λ_=>0)⟩ ka kn kc).toArray,.int .u8 x0]:=by
  simp only[aH,den,ai,cl,cH]
 rw[<-cV];refine(eO (C:=qY prog gS (XW (aq ay)) (JR (gRz r0)) Pe (agB tg tc W ⟨q,ka,kn,kc⟩ (λ_=>(0,λ_=>0)) a b e bn en)) agA.T agA.Q 60 agw rfl S cS).mono ?_;rintro v w' ⟨x,more,bl',ch',rfl,h1,S',rfl⟩;exact⟨rfl,S'.ch⟩
end
end Go.Proofs.YtggfpcggakghnaaGreatDoor
namespace Go.Proofs.YtggfpcggakghnaaGreatDoor.coreReclaims
open Go.ChangeShapes Go.WideShapes Go.ChangeAt Go.RowKit Go.Joins Sd Sx
theorem opened (H:Type) (enc:aJ×ae->H) (W:ag) (args:Array ae) (ds gs:List (DataW H)) (before:List MemPlace)
 (um:∀(j:Nat) t v,Tryz.f7.params[j]?=some t->args[j]?=some v->AS prog W .any 0 t v)
 (hW:DataW.Whole enc prog Tryz.f7.params.toList Rows.coreReclaimsSpec.vars false W args.toList ds gs before) (hL:laidMetH prog On W):
 Rows.coreReclaimsSpec.fn H (ds++gs)={results:=[.lit (.bool true)],args:=ds,vars:=[]}/\Calls prog 7 args W λe W'=>e=.returned (.bool true)/\Below W.heap.size W W':=by
 obtain⟨p,q,hA,hV,rfl,xZ,tB⟩:=hW;obtain⟨tG,hG⟩:=aeO hL;obtain⟨tC,hC⟩:=aeZ hL;rw[Tryz.params7]at hA um;obtain⟨v0,v1,d0,d1,p0,p1,cV,rfl,_,Fg,Ot⟩:=trodAll_two hA;obtain rfl:args=#[v0,v1]:=by cases args;simp_all
 obtain⟨rfl,rfl⟩:=trodVars_none hV;obtain⟨pq,ka,kn,kc,rfl,hk⟩:=ae0 (um 0 28 v0 rfl rfl) (λn=>by obtain⟨fuel,h⟩:=Fg;exact Sx.Jj n h);obtain⟨y,rfl,hy⟩:=aeW Tryz.underlying5 (aeU Tryz.underlying5 rfl (um 1 5 v1 rfl rfl));exact⟨rfl,Sx.YI (ayB hG hC pq ka kn kc hk hy)⟩
theorem own:ownKnob prog.godebug=none:=by kernel_rfl
def yn:List (String×DataW Unit):=[("sidestick/gate.commands",Rows.laid_sidestick_gate_commands),("sidestick/sha.roots",Yy)]
theorem Yh (os:Os) (args:Array ae):laidMetH prog yn ((YA prog 400 os).forCall (λ_ _=>0) ⟨#[],args,[]⟩).memory:=
 laidMetH_of_parts3 (fuel:=8) (laidMet_of_run' 8 (by kernel_rfl) (by kernel_rfl)) (by kernel_rfl) (by kernel_rfl)
theorem lifted (os:Os) (started:os.Started) (H:Type) (enc:aJ×ae->H):
 ReturnsInHanded {} Ki os 7 .any (λw args=>(Rows.coreReclaimsSpec.pre enc prog Tryz.f7 [] false w args/\laidMetH prog yn w)/\sizedMet enc prog Tryz.f7 (OpenSpec.ofChange Rows.coreReclaimsSpec) false w args)
  (Rows.coreReclaimsSpec.post enc prog Tryz.f7 false true false false):=by
 refine returnsInHanded_of_change_and (C:=Ki) (X:=λw _=>laidMetH prog yn w) (λ_ _ _ hh h=>h.of_heap hh) own started (by kernel_rfl) Tryz.func7
  (ChangeSpec.witness_shaped (enc:=enc) (C:=Ki) (os:=os) (X:=λw _=>laidMetH prog yn w) false (YA prog 400 os) #[.agg #[.int .i64 0,.int .i64 0,.int .i64 0,.int .i64 0,.int .i64 0,.slice none 0 0,.slice none 0 0,.slice none 0 0,.slice none 0 0,.int .i64 0,.int .i64 0,.int .i64 0,.int .i64 0,.int .i64 0,.int .i64 0,.int .i64 0,.int .i64 0,.int .i64 0,.int .i64 0,.int .i64 0,.int .i64 0,.int .i64 0,.int .i64 0,.int .i64 0,.int .i64 0,.int .i64 0,.int .i64 0,.int .i64 0,.int .i64 0,.int .i64 0,.int .i64 0,.int .i64 0,.int .i64 0,.int .i64 0,.int .i64 0,.int .i64 0,.int .i64 0,.int .i64 0,.int .i64 0,.int .i64 0,.int .i64 0,.int .i64 0,.int .i64 0,.int .i64 0,.int .i64 0,.int .i64 0,.int .i64 0,.int .i64 0,.int .i64 0,.int .i64 0,.int .i64 0,.int .i64 0,.int .i64 0,.int .i64 0,.int .i64 0,.int .i64 0],.int .u8 0] 8 rfl (World.shaped_of_RefB (by kernel_rfl) (by kernel_rfl)) (by kernel_rfl) (by kernel_rfl) (by kernel_rfl) (Yh os _)) ?_
 intro W base args ds gs before um hW _ _ hL _;obtain⟨hs,hc⟩:=opened H enc W args ds gs before um hW hL;refine hc.mono λe W' ⟨he,hb⟩=>⟨_,he,?_⟩;exact aeS (by kernel_rfl) (by kernel_rfl) rfl (by kernel_rfl) Tryz.underlying4 hs hW hb
end Go.Proofs.YtggfpcggakghnaaGreatDoor.coreReclaims
namespace Go.Proofs.YtggfpcggakghnaaGreatDoor.coreReclaims
theorem closed:joinedFacts Tryz.pinned.checked.prog 7 Tryz.f7 Rows.coreReclaimsSpec Rows.coreReclaimsRow=true:=by kernel_rfl
open Go.ChangeShapes Go.WideShapes Go.ChangeAt Go.RowKit Go.Joins Sd Sx
theorem said:Rows.CoreReclaimsSaid:=
 OpenClaim.holds_of_wide 7 Tryz.f7 rfl rfl rfl rfl rfl rfl rfl ⟨rfl,rfl,rfl,rfl,rfl⟩ rfl rfl rfl rfl rfl (by kernel_rfl) Tryz.func7 closed
  (of_decide_eq_true (by kernel_rfl)) (by unfold Func.isWrapper;first|(rw[if_pos (by decide+kernel)];kernel_rfl)|(rw[if_neg (by decide+kernel)];exact⟨rfl,rfl⟩))
  (λos started H enc _=>lifted os started H enc)
theorem proved:Rows.CoreReclaimsCardSaid:=
 Claim7.holds_tied_plain_at .later [] [.data,.data] true Rows.coreReclaimsCard.stood.harness true
  said (λ_ h=>by cases h) (by kernel_rfl) (λ_ h=>by cases h) coreReclaims_row_tie rfl ⟨rfl,rfl⟩ (by kernel_rfl) rfl
  (λf fn hf Bj=>by
   obtain rfl:f=7:=cG ((show prog.funcNamed "sidestick/sidesticklaw24.CoreReclaims" =some 7 by kernel_rfl).symm.trans hf)|>.symm;obtain rfl:fn=Tryz.f7:=(cG (Tryz.func7.symm.trans Bj)).symm;exact⟨by kernel_rfl,λj t ht=>by
    have dw:(Tryz.f7.params.toList.all λu=>!prog.wantsStandIn u)=true:=by kernel_rfl
    have hm:t∈Tryz.f7.params.toList:=by simpa using Array.mem_of_getElem? ht
    exact(show prog.wantsStandIn t=false by simpa using gm.1 dw t hm)⟩)
  (by kernel_rfl)
end Go.Proofs.YtggfpcggakghnaaGreatDoor.coreReclaims
