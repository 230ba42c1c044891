/- Part 7 of the proof. -/
import Derived.Test.YtggfpcggakghnaaGreatDoorT6
set_option linter.all false
set_option maxRecDepth 100000
set_option maxHeartbeats 4000000
open Go.IntKind (u8 u16 u32 u64 i64)
open Go renaming TypeId->aJ,World->ag
open Int renaming ofNat_eq_natCast->FG,tmod_eq_emod_of_nonneg->FK,ofNat->db
open List renaming mem_cons->cn,mem_append->fc,nil_append->fi,not_mem_nil->pN
open Nat renaming beq->az,ble->bG,eq_of_beq_eq_true->cz,le_of_ble_eq_true->dJ,ble_eq_true_of_le->uu
open Option.some renaming inj->cG
open Prod.mk renaming injEq->bC
namespace Go.Proofs.YtggfpcggakghnaaGreatDoor
section
open Go Go.RowKit Go.BigFrame Sx Vx
theorem yl {s:Sd.aa} {c:Sd.Core} {l:List (Int×Sd.aF)} (h:s.at_ c l):s.c.t=c.t/\s.c.q=c.q/\s.c.mode=c.mode/\s.c.d_=c.d_/\s.c.af=c.af/\s.c.p=c.p/\s.c.pt=c.pt:=by
 obtain⟨⟨x,e⟩,_⟩:=h;rw[e];exact⟨rfl,rfl,rfl,rfl,rfl,rfl,rfl⟩
theorem vM {s:Sd.aa} {c:Sd.Core} {l:List (Int×Sd.aF)} (h:s.at_ c l):(cd s).at_ c []:=⟨h.1,rfl⟩
section
variable{tg tc:aJ} {it:Nat} {k:LK} {s:Sd.aa} {F:aX bN (aU k s)} {l r:Int} {c:Sd.Core}
theorem JS {n cc:Nat} {f:Sd.ao} {X:(s':Sd.aa)->Sd.ao->Sd.aF->aX bN (aU k s')->List aj->Prop} (hB:lz tg tc k s F) (aP:s.at_ c []) (hA:Sd.yg c.p) (hl:1<=l/\l<=3) (hr:1<=r/\r<=3) (hk:c.p.k (l.toNat-1)=(n,f)) (hn:1<=n/\n<=64) (hc:n<=cc) (hd:(c.doors (l.toNat-1)).many<4294967295) (hs:c.af.cj l=true\/c.af.many<c.p.fj)
 (hX:∀(s':Sd.aa) (key:Sd.ao) (F':aX bN (aU k s')) (jN:List aj),lz tg tc k s' F'->s'.at_ (Sd.dU (aq ay) c l r) []->key=(aq ay).key (c.p.k (l.toNat-1)) l r (Sd.sP (aq ay) c l)->X s' key {kind:=130,role:=r,cX:=c.t.aG,ah:=c.t.ah} F' jN):
 yk (aq ay) tg tc it k s F n cc f l r X:=by
 have ht:=hA.jf hl hr;have BW:0<=r/\r<=3:=by omega
 refine ayd hB hc hn hl BW (axJ aP BW hl ht hd) λs' key rep e F' jN B=>?_;obtain⟨s1,E,a1⟩:=axK (n:=n) (f:=f) aP BW hl hk ht hd hs;rw[E]at e;simp only[bC]at e;obtain⟨rfl,rfl,rfl⟩:=e;exact hX _ _ F' jN B a1 (by rw[hk];rfl)
theorem AB {key:Sd.ao} {m:Sd.a9} {role hi:Int} {X:(s':Sd.aa)->TR->List aj->aX bN (aU k (cd s'))->Prop} (hB:lz tg tc k s F) (aP:s.at_ c []) (hS:Sd.f_ c l key role hi) (hm:kW m) (hn:hi<m.seq)
 (hX:∀(s':Sd.aa) (r:TR) (fn:List aj) (F0:aX bN (aU k (cd s'))),lz tg tc k (cd s') F0->s'.at_ (Sd.fp (aq ay) c l m).1 (Sd.fp (aq ay) c l m).2->lx bN s'.bg r.fv fn->(∀y∈s'.bg,Sd.ow y)/\s'.bg.length<=10->X s' r fn F0):vL (aq ay) tg tc it k s F key l m X:=by
 refine aye hB hS.lk hm λs' e r fn F0 B hf hs=>hX s' r fn F0 B ?_ hf hs;have:=axG aP hS hm hn;rw[<-e]at this;unfold Sd.aa.res at this
 rwa [fi]at this
end
theorem XK {t:Sd.aw} {l:Int} (hl:1<=l/\l<=3) (h:t.cj l=false):t.many<3:=by
 rw[Sd.aww t (t.cj 1) (t.cj 2) (t.cj 3) rfl rfl rfl];rcases(by omega:l=1\/l=2\/l=3)with rfl|rfl|rfl<;>rw[h]<;>split<;>(try split)<;>(try split)<;>simp_all
theorem Pf {C:Sd.aK} {c:Sd.Core} {a b r:Int} (ha:1<=a/\a<=3) (hb:1<=b/\b<=3) (h:a≠b):(Sd.dU C c a r).doors (b.toNat-1)=c.doors (b.toNat-1):=by
 show(if b.toNat-1=a.toNat-1 then _ else _)=_;rw[if_neg (by omega)]
theorem agt {x:gk} {p:Nat->Int} {m:Nat->Nat} (hM:Made x p m):AQ p (na p):=by
 have bT:∀{a b:Nat},a<=b->bG a b=true:=λh=>uu h;have bF:∀{a b:Nat},b<a->bG a b=false:=λ{a b} h=>by cases hb:bG a b with|false=>rfl|true=>exact absurd (dJ hb) (by omega)
 have qF:∀{a b:Nat},a≠b->az a b=false:=λ{a b} h=>by cases hb:az a b with|false=>rfl|true=>exact absurd (cz hb) h
 have h55:p 55=bits .and .i64 (x.q 55) 65535:=hM.I.lo 55 (by decide);have b55:=Ww (x.q 55);refine⟨λi hi=>?_,⟨rfl,rfl⟩,λi hi=>?_,λi hi=>?_,λi hi=>?_,λi hi=>?_,λi h1 h2=>?_,rfl,λi h1 h2=>?_,λi hi=>?_,?_⟩
 ·unfold na;rw[bT (by omega:i<=13),qF (show i≠9 by omega),qF (show i≠13 by omega),bF (show i<10 by omega)];rfl
 ·unfold na;rw[bT (by omega:i<=13),qF (show i≠9 by omega),qF (show i≠13 by omega),bT hi.1];rfl
 ·unfold na;rw[bF (show 13<i by omega),bT hi.2];rfl
 ·unfold na;rw[bF (show 13<i by omega),bF (show 33<i by omega),bT hi.2];rfl
 ·unfold na;rw[bF (show 13<i by omega),bF (show 33<i by omega),bF (show 38<i by omega),qF (show i≠42 by omega),qF (show i≠44 by omega),qF (show i≠45 by omega),qF (show i≠48 by omega),qF (show i≠49 by omega),qF (show i≠55 by omega)];rfl
 ·have ht:=hM.I.ti;rcases(by omega:i=42\/i=43\/i=44\/i=45\/i=46)with rfl|rfl|rfl|rfl|rfl
  ·show 1<=(900:Int)/\(900:Int)<=1000;decide
  ·exact ht 43 (by decide) (by decide)
  ·show 1<=(900:Int)/\(900:Int)<=1000;decide
  ·show 1<=(900:Int)/\(900:Int)<=1000;decide
  ·exact ht 46 (by decide) (by decide)
 ·rcases(by omega:i=48\/i=49)with rfl|rfl<;>(show 1<=(3:Int)/\(3:Int)<=3;decide)
 ·unfold na;rw[bF (show 13<i by omega),bF (show 33<i by omega),bF (show 38<i by omega),qF (show i≠42 by omega),qF (show i≠44 by omega),qF (show i≠45 by omega),qF (show i≠48 by omega),qF (show i≠49 by omega),qF (show i≠55 by omega)];rfl
 ·show 0<=(p 55).tmod 60000/\(p 55).tmod 60000<=65535;rw[FK (by omega)];omega
theorem XL {x:gk} {p:Nat->Int} {m:Nat->Nat} (hM:Made x p m):0<=na p 55/\na p 55<60000:=by
 have h55:p 55=bits .and .i64 (x.q 55) 65535:=hM.I.lo 55 (by decide);have b55:=Ww (x.q 55);show 0<=(p 55).tmod 60000/\(p 55).tmod 60000<60000;rw[FK (by omega)];omega
theorem agu {p:Nat->Int} {q:Nat->Int} {p2:Sd.aO} (h:AQ p q) (hi:∀i,i<56->iE i=false->p2.i i=q i):Sd.yg p2 where
 A9 i je:=by rw[hi i (by omega) (mZ (by omega))];exact h.AA i je
 table i je:=by rw[hi i (by omega) (mZ (by omega))];exact h.af i je
 graph i je:=by rw[hi i (by omega) (mZ (by omega))];exact h.gr i je
theorem ayf {tg tc:aJ} {it:Nat} {k:LK} {p2:Sd.aO} {F:aX bN (aU k (gQ p2))} {a b ra rb:Int} {ja jb ca cb:Nat} {m:Nat->Nat} {f:Nat->Sd.ao} {X:(s1:Sd.aa)->Sd.ao->Sd.aF->(s2:Sd.aa)->Sd.ao->Sd.aF->aX bN (aU k s2)->List aj->Prop} (hB:lz tg tc k (gQ p2) F) (hA:Sd.yg p2) (h3:p2.fj=3) (ha:1<=a/\a<=3) (hb:1<=b/\b<=3) (jJ:a≠b) (XM:ja=a.toNat-1) (lO:jb=b.toNat-1) (hra:1<=ra/\ra<=3) (Js:1<=rb/\rb<=3)
 (hk:∀j,j<4->p2.k j=(m j,f j)) (hm:∀j,j<4->1<=m j/\m j<=64) (hca:m ja<=ca) (hcb:m jb<=cb)
 (hX:∀(s1:Sd.aa) (one:Sd.ao) (r1:Sd.aF) (s2:Sd.aa) (two:Sd.ao) (r2:Sd.aF) (F2:aX bN (aU k s2)) (vN:List aj) (c:Sd.Core),lz tg tc k s2 F2->s2.at_ c []->Sd.HS p2 a b one two ra rb c 0 0 (Sd.Core.new p2).t p2.start ⟨2,4,0⟩ []->Sd.Still c.af p2.bV 0->X s1 one r1 s2 two r2 F2 vN):
 yk (aq ay) tg tc it k (gQ p2) F (m ja) ca (f ja) a ra λs1 one r1 F1 Pg=>yk (aq ay) tg tc it k s1 F1 (m jb) cb (f jb) b rb λs2 two r2 F2 vN=>X s1 one r1 s2 two r2 F2 vN:=by
 have Fs:(gQ p2).at_ (Sd.Core.new p2) []:=⟨⟨_,rfl⟩,rfl⟩;have Fw:=hB.c.i.p.bV;have azK:1<=p2.bV/\p2.bV<=1000:=Fw;refine JS hB Fs hA ha hra (by rw[<-XM];exact hk ja (by omega)) (hm ja (by omega)) hca (by show(0:Int)<4294967295;decide) (.inr (by show Sd.aw.new.many<p2.fj;rw[h3];decide)) λs1 one F1 Pg B1 XN e1=>?_;have off:(Sd.dU (aq ay) (Sd.Core.new p2) a ra).af.cj b=false:=Sd.OQ ha hb jJ (by rw[Sd.lN hb];rfl);refine JS B1 XN hA hb Js (by rw[<-lO];exact hk jb (by omega)) (hm jb (by omega)) hcb (by rw[Pf ha hb jJ];show(0:Int)<4294967295;decide) (.inr (by show(Sd.dU (aq ay) (Sd.Core.new p2) a ra).af.many<p2.fj;rw[h3];exact XK hb off)) λs2 two F2 vN B2 JT e2=>?_;have S0:Sd.Still (Sd.Core.new p2).af p2.bV 0:=Sd.axi _;have S1:=Sd.af0 (C:=aq ay) (k:=a) (r:=ra) (m:=p2.bV) (by omega) rfl S0;have S2:=Sd.af0 (C:=aq ay) (c:=Sd.dU (aq ay) (Sd.Core.new p2) a ra) (k:=b) (r:=rb) (m:=p2.bV) (by omega) rfl S1;refine hX s1 one _ s2 two _ F2 vN _ B2 JT ⟨rfl,Sd.OP ?_ hb jJ.symm,?_,rfl,rfl,rfl,rfl⟩ S2
 ·rw[e1];exact Sd.JH ha
 ·rw[e2];exact Sd.JH hb
theorem agv {W:ag} {tg tc:aJ} (hG:W.heap[1]?=some (.cells (aE .u32 64 cT) tg (0,0))) (hC:W.heap[0]?=some (.cells #[.bool false,.bool false,.bool false,.bool false,.bool false,.bool false,.bool false,.bool false,.bool false,.bool false,.bool true,.bool true] tc (0,0))):
 St [] W (lits [1,0] [1,0] [j5 tg,nK tc]++aC [LG.a_ (fr:=bN) W] []) W:=by
 refine St.OF ?_;intro y hy;rcases fc.1 hy with hy|hy
 ·simp only[lits,cn,pN,or_false]at hy;rcases hy with rfl|rfl
  ·exact⟨rfl,hG.trans (by kernel_rfl)⟩
  ·exact⟨rfl,hC.trans (by kernel_rfl)⟩
 ·have:y∈dR W:=by
   rcases fc.1 (show y∈dR W++[]from hy)with h|h
   ·exact h
   ·cases h
  exact avG W y this
theorem agw:Gl gS [1,0]:=by
 intro g j hg;unfold gS at hg;split at hg
 ·obtain rfl:=cG hg;exact⟨by simp,rfl⟩
 ·obtain rfl:=cG hg;exact⟨by simp,rfl⟩
 ·cases hg
theorem agx {x:Int} (h:0<=x/\x<=255):(i64.wrap x).tmod 3=db 0\/(i64.wrap x).tmod 3=db 1\/(i64.wrap x).tmod 3=db 2:=by
 rw[kQ (by omega),FK h.1];simp only[FG];omega
def jO (K:V->Prop):Prop:=K (.bool false)
def Ph (tg tc:aJ) (it:Nat) (k:LK) (s:Sd.aa) (F:aX bN (aU k s)) (sv:Sd.aa) (X:(s':Sd.aa)->TR->List aj->aX bN (aU k (cd s'))->Prop):Prop:=vF tg tc it k s/\Pb k s F/\Fv (fr:=bN) (k:=k) sv X
def shP (tg tc:aJ):Prop->Prop:=λX=>(false=false/\(j5 tg).c=(j5 tg).c/\false=false/\(nK tc).c=(nK tc).c)/\X
section
variable(C:Sd.aK) (tg tc:aJ) (u:ag) (x:gk) (f:Nat->Nat×Sd.ao) (x0 x1:Int) (nw:Bool) (K:V->Prop) (q:Nat->Int) (m d:Nat->Nat)
end
section
variable{tg tc:aJ} {it:Nat} {k:LK} {s:Sd.aa} {F:aX bN (aU k s)} {c:Sd.Core}
end
end
end Go.Proofs.YtggfpcggakghnaaGreatDoor
