/- CoreRoom: when as many sessions are there as may be, or as many wait as may, the next one is told so, and nothing changes. Conditions: none. -/
import Derived.Test.YtggfpcggakghnaaGreatDoorCards
import Derived.Test.YtggfpcggakghnaaGreatDoorTie
import Derived.Lib.SmallJoins
import Derived.SevenTiedAt
import Derived.LaidMore
import Derived.Stop.Joined
import Derived.Test.YtggfpcggakghnaaGreatDoorRows
import Derived.ProofKit
import Derived.Test.YtggfpcggakghnaaGreatDoorO7
import Derived.Test.YtggfpcggakghnaaGreatDoorO8
import Derived.Test.YtggfpcggakghnaaGreatDoorO9
set_option linter.all false
set_option maxRecDepth 100000
set_option maxHeartbeats 4000000
noncomputable section
open Go.Proofs.Tryz
open Go.IntKind (u8 u16 u32 u64 i64)
open Go renaming TypeId->aG,Addr->aO,Value->ab,World->ae
open Go.Proofs.Tryz renaming checked->ad9
open Go.Proofs.YtggfpcggakghnaaGreatDoor.Rows renaming laid_sidestick_sha_roots->ad7
open Go.Value renaming okWide->xB
open Int renaming tmod_eq_emod_of_nonneg->V8,ofNat->cJ,ofNat_eq_natCast->xy
open List renaming append_nil->cQ,mem_cons->ca,mem_append->eJ,all_eq_true->fR,nil_append->fl,not_mem_nil->oV
open Nat renaming beq->aq,ble->bu,eq_of_beq_eq_true->ck,le_of_ble_eq_true->du,le_add_right->rX,ble_eq_true_of_le->tB
open Option.some renaming inj->cA
open Prod.mk renaming injEq->bw
namespace Go.Proofs.YtggfpcggakghnaaGreatDoor
section
open Go Go.RowKit Go.BigFrame Sx Vx
theorem Nu {s:Sd.aa} {c:Sd.Core} {l:List (Int×Sd.aE)} (h:s.at_ c l):s.c.t=c.t/\s.c.q=c.q/\s.c.mode=c.mode/\s.c.ff=c.ff/\s.c.ag=c.ag/\s.c.p=c.p/\s.c.pt=c.pt:=by
 obtain⟨⟨x,e⟩,_⟩:=h;rw[e];exact⟨rfl,rfl,rfl,rfl,rfl,rfl,rfl⟩
theorem Ix {s:Sd.aa} {c:Sd.Core} {l:List (Int×Sd.aE)} (h:s.at_ c l):(cE s).at_ c []:=⟨h.1,rfl⟩
section
variable{tg tc:aG} {it:Nat} {k:LK} {s:Sd.aa} {F:aW bO (aR k s)} {l r:Int} {c:Sd.Core}
theorem Iy {n cc:Nat} {f:Sd.av} {X:(s':Sd.aa)->Sd.av->Sd.aE->aW bO (aR k s')->List ai->Prop} (hB:jX tg tc k s F) (aM:s.at_ c []) (hA:Sd.uU c.p) (hl:1<=l/\l<=3) (hr:1<=r/\r<=3) (hk:c.p.k (l.toNat-1)=(n,f)) (hn:1<=n/\n<=64) (hc:n<=cc) (hd:(c.doors (l.toNat-1)).many<4294967295) (hs:c.ag.de l=true\/c.ag.many<c.p.d_)
 (hX:∀(s':Sd.aa) (key:Sd.av) (F':aW bO (aR k s')) (ib:List ai),jX tg tc k s' F'->s'.at_ (Sd.oM (aJ aH) c l r) []->key=(aJ aH).key (c.p.k (l.toNat-1)) l r (Sd.mQ (aJ aH) c l)->X s' key {kind:=130,role:=r,dh:=c.t.ay,af:=c.t.af} F' ib):
 B8 (aJ aH) tg tc it k s F n cc f l r X:=by
 have ht:=hA.iq hl hr;have wC:0<=r/\r<=3:=by omega
 refine adJ hB hc hn.2 hl wC λs' key rep e F' ib B=>?_;obtain⟨s1,E,a1⟩:=auB (n:=n) (f:=f) aM wC hl hk ht hd hs;rw[E]at e;simp only[bw]at e;obtain⟨rfl,rfl,rfl⟩:=e;exact hX _ _ F' ib B a1 (by rw[hk];rfl)
theorem VO {n cc:Nat} {f:Sd.av} {X:(s':Sd.aa)->Sd.av->Sd.aE->aW bO (aR k s')->List ai->Prop} (hB:jX tg tc k s F) (aM:s.at_ c []) (hA:Sd.uU c.p) (hl:1<=l/\l<=3) (hr:1<=r/\r<=3) (hk:c.p.k (l.toNat-1)=(n,f)) (hn:1<=n/\n<=64) (hc:n<=cc) (hd:(c.doors (l.toNat-1)).many<4294967295) (ho:c.ag.de l=false) (hs:c.p.d_<=c.ag.many)
 (hX:∀(s':Sd.aa) (key:Sd.av) (F':aW bO (aR k s')) (ib:List ai),jX tg tc k s' F'->s'.at_ (Sd.zE c l) []->X s' key {kind:=132,seq:=0,code:=19} F' ib):
 B8 (aJ aH) tg tc it k s F n cc f l r X:=by
 have ht:=hA.iq hl hr;have wC:0<=r/\r<=3:=by omega
 refine adJ hB hc hn.2 hl wC λs' key rep e F' ib B=>?_;obtain⟨s1,E,a1⟩:=auC (n:=n) (f:=f) aM wC hl hk ht hd ho hs;rw[E]at e;simp only[bw]at e;obtain⟨rfl,rfl,rfl⟩:=e;exact hX _ _ F' ib B a1
theorem VP {key:Sd.av} {m:Sd.aY} {role hi:Int} {X:(s':Sd.aa)->TR->List ai->aW bO (aR k (cE s'))->Prop} (hB:jX tg tc k s F) (aM:s.at_ c []) (hS:Sd.jq c l key role hi) (hm:ll m) (hn:hi<m.seq)
 (hX:∀(s':Sd.aa) (r:TR) (fn:List ai) (F0:aW bO (aR k (cE s'))),jX tg tc k (cE s') F0->s'.at_ (Sd.lj (aJ aH) c l m).1 (Sd.lj (aJ aH) c l m).2->mf bO s'.bh r.fv fn->(∀y∈s'.bh,Sd.rJ y)/\s'.bh.length<=10->X s' r fn F0):Ns (aJ aH) tg tc it k s F key l m X:=by
 refine au6 hB hS.lk hm λs' e r fn F0 B hf hs=>hX s' r fn F0 B ?_ hf hs;have:=auA aM hS hm hn;rw[<-e]at this;unfold Sd.aa.res at this
 rwa [fl]at this
end
theorem avg {t:Sd.aA} {l:Int} (hl:1<=l/\l<=3) (h:t.de l=false):t.many<3:=by
 rw[Sd.M9 t (t.de 1) (t.de 2) (t.de 3) rfl rfl rfl];rcases(by omega:l=1\/l=2\/l=3)with rfl|rfl|rfl<;>rw[h]<;>split<;>(try split)<;>(try split)<;>simp_all
theorem adO {x:gp} {p:Nat->Int} {m:Nat->Nat} (hM:Made x p m):AQ p (nY p):=by
 have bT:∀{a b:Nat},a<=b->bu a b=true:=λh=>tB h;have bF:∀{a b:Nat},b<a->bu a b=false:=λ{a b} h=>by cases hb:bu a b with|false=>rfl|true=>exact absurd (du hb) (by omega)
 have qF:∀{a b:Nat},a≠b->aq a b=false:=λ{a b} h=>by cases hb:aq a b with|false=>rfl|true=>exact absurd (ck hb) h
 have h55:p 55=bits .and .i64 (x.q 55) 65535:=hM.I.lo 55 (by decide);have b55:=Uz (x.q 55);refine⟨λi hi=>?_,⟨rfl,rfl⟩,λi hi=>?_,λi hi=>?_,λi hi=>?_,λi hi=>?_,λi h1 h2=>?_,rfl,λi h1 h2=>?_,λi hi=>?_,?_⟩
 ·unfold nY;rw[bT (by omega:i<=13),qF (show i≠9 by omega),qF (show i≠13 by omega),bF (show i<10 by omega)];rfl
 ·unfold nY;rw[bT (by omega:i<=13),qF (show i≠9 by omega),qF (show i≠13 by omega),bT hi.1];rfl
 ·unfold nY;rw[bF (show 13<i by omega),bT hi.2];rfl
 ·unfold nY;rw[bF (show 13<i by omega),bF (show 33<i by omega),bT hi.2];rfl
 ·unfold nY;rw[bF (show 13<i by omega),bF (show 33<i by omega),bF (show 38<i by omega),qF (show i≠42 by omega),qF (show i≠44 by omega),qF (show i≠45 by omega),qF (show i≠48 by omega),qF (show i≠49 by omega),qF (show i≠55 by omega)];rfl
 ·have ht:=hM.I.ti;rcases(by omega:i=42\/i=43\/i=44\/i=45\/i=46)with rfl|rfl|rfl|rfl|rfl
  ·show 1<=(900:Int)/\(900:Int)<=1000;decide
  ·exact ht 43 (by decide) (by decide)
  ·show 1<=(900:Int)/\(900:Int)<=1000;decide
  ·show 1<=(900:Int)/\(900:Int)<=1000;decide
  ·exact ht 46 (by decide) (by decide)
 ·rcases(by omega:i=48\/i=49)with rfl|rfl<;>(show 1<=(3:Int)/\(3:Int)<=3;decide)
 ·unfold nY;rw[bF (show 13<i by omega),bF (show 33<i by omega),bF (show 38<i by omega),qF (show i≠42 by omega),qF (show i≠44 by omega),qF (show i≠45 by omega),qF (show i≠48 by omega),qF (show i≠49 by omega),qF (show i≠55 by omega)];rfl
 ·show 0<=(p 55).tmod 60000/\(p 55).tmod 60000<=65535;rw[V8 (by omega)];omega
theorem avh {x:gp} {p:Nat->Int} {m:Nat->Nat} (hM:Made x p m):0<=nY p 55/\nY p 55<60000:=by
 have h55:p 55=bits .and .i64 (x.q 55) 65535:=hM.I.lo 55 (by decide);have b55:=Uz (x.q 55);show 0<=(p 55).tmod 60000/\(p 55).tmod 60000<60000;rw[V8 (by omega)];omega
theorem adP {p:Nat->Int} {q:Nat->Int} {p2:Sd.aN} (h:AQ p q) (hi:∀i,i<56->iJ i=false->p2.i i=q i):Sd.uU p2 where
 Am i iM:=by rw[hi i (by omega) (nR (by omega))];exact h.zI i iM
 table i iM:=by rw[hi i (by omega) (nR (by omega))];exact h.ag i iM
 graph i iM:=by rw[hi i (by omega) (nR (by omega))];exact h.gr i iM
theorem avi {W:ae} {tg tc:aG} (hG:W.heap[1]?=some (.cells (au .u32 64 cH) tg (0,0))) (hC:W.heap[0]?=some (.cells #[.bool false,.bool false,.bool false,.bool false,.bool false,.bool false,.bool false,.bool false,.bool false,.bool false,.bool true,.bool true] tc (0,0))):
 St [] W (lits [1,0] [1,0] [lh tg,oH tc]++ax [LG.aZ (fr:=bO) W] []) W:=by
 refine St.MZ ?_;intro y hy;rcases eJ.1 hy with hy|hy
 ·simp only[lits,ca,oV,or_false]at hy;rcases hy with rfl|rfl
  ·exact⟨rfl,hG.trans (by kernel_rfl)⟩
  ·exact⟨rfl,hC.trans (by kernel_rfl)⟩
 ·have:y∈dC W:=by
   rcases eJ.1 (show y∈dC W++[]from hy)with h|h
   ·exact h
   ·cases h
  exact asy W y this
theorem avj:Gl gS [1,0]:=by
 intro g j hg;unfold gS at hg;split at hg
 ·obtain rfl:=cA hg;exact⟨by simp,rfl⟩
 ·obtain rfl:=cA hg;exact⟨by simp,rfl⟩
 ·cases hg
theorem VQ {x:Int} (h:0<=x/\x<=255):(i64.wrap x).tmod 3=cJ 0\/(i64.wrap x).tmod 3=cJ 1\/(i64.wrap x).tmod 3=cJ 2:=by
 rw[te (by omega),V8 h.1];simp only[xy];omega
section
variable{tg tc:aG} {it:Nat} {k:LK} {s:Sd.aa} {F:aW bO (aR k s)} {c:Sd.Core}
theorem avk {x:Sd.g9} {X:(s':Sd.aa)->TR->List ai->aW bO (aR k (cE s'))->Prop} (hB:jX tg tc k s F) (hx:Sd.nM x.x) (hX:∀s',s'=s.fO (aJ aH) x->∀(r:TR) (fn:List ai) (F0:aW bO (aR k (cE s'))),jX tg tc k (cE s') F0->X s' r fn F0):adM tg tc it k s F ((bQ s).fO (aJ aH) x) X:=by
 refine⟨hB.cy,hB.co,?_⟩;rw[qc];intro s' e r fn F0 v1 v2 _;refine hX s' e r fn F0 ⟨hB.tg,hB.tc,?_,hB.kj,?_,v1,v2⟩
 ·show s'.c.p.queue=k.most;rw[e,Ui (Sd.abz (C:=aJ aH) (b:=False) hB.c.i)];exact hB.q
 ·rw[e];exact hB.c.fO hx
end
theorem adQ {x:gp} {p:Nat->Int} {m:Nat->Nat} {r0:Nat} (h2:r0<=2) (hM:Made x p m):AQ p (Iv r0 p):=by
 have h:=adO hM;have e:∀i,i≠49->Iv r0 p i=nY p i:=λi h1=>by
  unfold Iv;have b1:aq i 49=false:=by cases h:aq i 49 with|false=>rfl|true=>exact absurd (ck h) h1
  rw[b1];rfl
 refine⟨λi hi=>by rw[e i (by omega)];exact h.lo i hi,h.r9,λi hi=>by rw[e i (by omega)];exact h.zI i hi,λi hi=>by rw[e i (by omega)];exact h.ag i hi,λi hi=>by rw[e i (by omega)];exact h.gr i hi,λi hi=>by rw[e i (by omega)];exact h.mo i hi,λi h1 h2=>by rw[e i (by omega)];exact h.ti i h1 h2,h.be,λi h1 h2=>?_,λi hi=>by rw[e i (by omega)];exact h.li i hi,by rw[e 55 (by omega)];exact h.ep⟩;by_cases h49:i=49
 ·subst h49;show 1<=cJ (1+r0)/\cJ (1+r0)<=3;simp only[xy];omega
 ·rw[e i h49];exact h.qs i h1 h2
theorem adR {x2:Int} (h:0<=x2/\x2<=255):1<=lM x2/\lM x2<=3:=by
 unfold lM;have:=VQ h;rcases this with e|e|e<;>rw[e]<;>decide
theorem Nv {s:Sd.aa} {c:Sd.Core} {C:Sd.aL} {l r:Int} {L:List (Int×Sd.aE)} (hl:1<=l/\l<=3) (h:s.at_ (Sd.oM C c l r) L):(!((eB s.c.ag).on l==true))=false:=by
 rw[G2,(Nu h).2.2.2.2.1,Sd.ac2 hl];rcases(by omega:l=1\/l=2\/l=3)with rfl|rfl|rfl<;>rfl
theorem VR {s:Sd.aa} {c:Sd.Core} {l:Int} {L:List (Int×Sd.aE)} (hl:1<=l/\l<=3) (ho:c.ag.de l=false) (h:s.at_ (Sd.zE c l) L):(!((eB s.c.ag).on l==false))=false:=by
 rw[G2,(Nu h).2.2.2.2.1,Sd.ac2 hl,show(Sd.zE c l).ag=c.ag from rfl,ho];rfl
section
variable{tg tc:aG} {u:ae} {x:gp} {x0 x1 x2:Int} {K:V->Prop} {p:Nat->Int} {m d:Nat->Nat} {it:Nat} {k:LK} {s:Sd.aa} {F:aW bO (aR k s)}
theorem Nw {r:Sd.aE} {l:Int} {b:Bool} {X:Prop} (hb:b=true) (hk:r.kind=130) (hB:jX tg tc k s F) (ho:(!((eB s.c.ag).on l==true))=false) (hX:X):B_ tg tc K it k s r l b X:=by
 unfold B_;rw[hb,cond_true];exact mU (by rw[hk];rfl) (Nt hB (mU ho hX))
theorem VS {r:Sd.aE} {l:Int} {b:Bool} {X:Prop} (hb:b=false) (hk:r.kind=132) (hc:r.code=19) (hB:jX tg tc k s F) (ho:(!((eB s.c.ag).on l==false))=false) (hX:X):B_ tg tc K it k s r l b X:=by
 unfold B_;rw[hb,cond_false];exact mU (by rw[hk];rfl) (mU (by rw[hc];rfl) (Nt hB (mU ho hX)))
theorem avl {r0:Nat} (h0:r0=0\/r0=1\/r0=2) (hM:Made x p m) (h2:0<=x2/\x2<=255) {X:(p2:Sd.aN)->(k:LK)->Sd.aa->Prop} (hX:∀p2 k s,X p2 k s):VH (aJ aH) tg tc u x x2 K (Iv r0 p) m d 4 it r0 X:=by
 unfold VH;have hr:=adR h2;refine adK hM (adQ (by omega) hM) λp2 k F hB hi hk nu=>?_;have hA:=adP (adQ (by omega) hM) hi;have h3:p2.d_=cJ (1+r0):=hi 49 (by decide) rfl;have El:(gT p2).at_ (Sd.Core.new p2) []:=⟨⟨_,rfl⟩,rfl⟩;refine Iy hB El hA (by decide) hr (hk 0 (by decide)) (nu 0 (by decide)) (rX _ _) (by show(0:Int)<4294967295;decide) (.inr (by show(0:Int)<p2.d_;rw[h3];simp only[xy];omega)) λs1 k1 F1 VI B1 zJ e1=>?_;refine Nw rfl rfl B1 (Nv (by decide) zJ) ?_;have m1:(Sd.oM (aJ aH) (Sd.Core.new p2) 1 (lM x2)).ag.many=1:=by
  rw[Sd.M9 _ true false false rfl rfl rfl];rfl
 rcases h0 with rfl|rfl|rfl
 ·refine VO B1 zJ hA (by decide) hr (hk 1 (by decide)) (nu 1 (by decide)) (rX _ _) (by show(0:Int)<4294967295;decide) rfl (by rw[m1];show p2.d_<=1;rw[h3];decide) λs2 k2 F2 VJ B2 mj=>?_;refine VS rfl rfl rfl B2 (VR (by decide) rfl mj) ?_;refine VO B2 mj hA (by decide) hr (hk 2 (by decide)) (nu 2 (by decide)) (rX _ _) (by show(0:Int)<4294967295;decide) rfl (by show p2.d_<=(Sd.oM (aJ aH) (Sd.Core.new p2) 1 (lM x2)).ag.many;rw[m1,h3];decide) λs3 k3 F3 VL B3 mW=>?_;exact VS rfl rfl rfl B3 (VR (by decide) rfl mW) (hX _ _ _)
 ·refine Iy B1 zJ hA (by decide) hr (hk 1 (by decide)) (nu 1 (by decide)) (rX _ _) (by show(0:Int)<4294967295;decide) (.inr (by rw[m1];show 1<p2.d_;rw[h3];decide)) λs2 k2 F2 VJ B2 mj e2=>?_;refine Nw rfl rfl B2 (Nv (by decide) mj) ?_;have m2:(Sd.oM (aJ aH) (Sd.oM (aJ aH) (Sd.Core.new p2) 1 (lM x2)) 2 (lM x2)).ag.many=2:=by
   rw[Sd.M9 _ true true false rfl rfl rfl];rfl
  refine VO B2 mj hA (by decide) hr (hk 2 (by decide)) (nu 2 (by decide)) (rX _ _) (by show(0:Int)<4294967295;decide) rfl (by rw[m2];show p2.d_<=2;rw[h3];decide) λs3 k3 F3 VL B3 mW=>?_;exact VS rfl rfl rfl B3 (VR (by decide) rfl mW) (hX _ _ _)
 ·refine Iy B1 zJ hA (by decide) hr (hk 1 (by decide)) (nu 1 (by decide)) (rX _ _) (by show(0:Int)<4294967295;decide) (.inr (by rw[m1];show 1<p2.d_;rw[h3];decide)) λs2 k2 F2 VJ B2 mj e2=>?_;refine Nw rfl rfl B2 (Nv (by decide) mj) ?_;have m2:(Sd.oM (aJ aH) (Sd.oM (aJ aH) (Sd.Core.new p2) 1 (lM x2)) 2 (lM x2)).ag.many=2:=by
   rw[Sd.M9 _ true true false rfl rfl rfl];rfl
  refine Iy B2 mj hA (by decide) hr (hk 2 (by decide)) (nu 2 (by decide)) (rX _ _) (by show(0:Int)<4294967295;decide) (.inr (by rw[m2];show 2<p2.d_;rw[h3];decide)) λs3 k3 F3 VL B3 mW e3=>?_;exact Nw rfl rfl B3 (Nv (by decide) mW) (hX _ _ _)
end
structure nZ (p:Sd.aN) (q a n:Nat) (c:Sd.Core):Prop where
 hp:c.p=p
 h0:c.t.ay=0
 hb:c.t.bad=false
 he:c.t.af<65535
 on:∀j:Int,1<=j/\j<=3->c.ag.de j=decide (j<=(a:Int))
 dr:∀j:Nat,a<=j->(c.doors j).many=0
 ql:c.q.length=min n q
 qw:∀j:Int,1<=j/\j<=3->Sd.Q.waits c.q j=decide (j<=((min n q:Nat):Int))
section
variable{C:Sd.aL} {p:Sd.aN} {q a n:Nat} {c:Sd.Core} {l r:Int} {key:Sd.av} {m:Sd.aY} {hi:Int}
theorem adS (t:Sd.aA) (i:Nat) (x:Sd.gy) (j:Nat):(t.ei i x).aj j=if j=i then x else t.aj j:=rfl
theorem avm (h:nZ p q n n c) (hl:l=(n:Int)+1) (h3:l<=3):nZ p q (n+1) n (Sd.oM C c l r) where
 hp:=h.hp
 h0:=h.h0
 hb:=h.hb
 he:=h.he
 on j hj:=by
  rw[Sd.tu hj];show((c.ag.ei (l.toNat-1) _).aj (j.toNat-1)).on=_;rw[adS];by_cases e:j=l
  ·rw[if_pos (by omega)];symm;show decide _=true;rw[decide_eq_true_eq];omega
  ·rw[if_neg (by omega),<-Sd.tu hj,h.on j hj];have:(j<=(n:Int))=(j<=((n+1:Nat):Int)):=propext (by omega);simp only[this]
 dr j hj:=by
  show(if j=l.toNat-1 then _ else c.doors j).many=0;rw[if_neg (by omega)];exact h.dr j (by omega)
 ql:=h.ql
 qw:=h.qw
theorem Nx (h:nZ p q a n c) (hs:Sd.jq c l key r hi) (k:Int):nZ p q a n {c with ag:=c.ag.mP C c.p l k} where
 hp:=h.hp
 h0:=h.h0
 hb:=h.hb
 he:=h.he
 on j hj:=by
  rw[<-h.on j hj,Sd.tu hj,Sd.tu hj];show((c.ag.ei (l.toNat-1) _).aj (j.toNat-1)).on=_;rw[adS];by_cases e:j.toNat-1=l.toNat-1
  ·rw[if_pos e,e,<-Sd.tu hs.lk,hs.on]
  ·rw[if_neg e]
 dr:=h.dr
 ql:=h.ql
 qw:=h.qw
theorem avn (hT:Sd.uT C) (h:nZ p q a n c) (hs:Sd.jq c l key r hi) (hl:l=(n:Int)+1) (hq:p.queue=(q:Int)) (hn:n<q) (hm:m.kind=5) (Iz:m.now=false) (nV:hi<m.seq/\0<=m.seq/\m.seq<=4294967295):
 nZ p q a (n+1) (Sd.lj C c l m).1/\Sd.jq (Sd.lj C c l m).1 l key r m.seq/\(Sd.lj C c l m).2=[(l,{kind:=131,seq:=m.seq})]:=by
 have h1:=Nx (C:=C) h hs m.seq;have s1:=(hs.bW hT nV).2;have hh:=h.h0;have lk:=hs.lk;have e:=(Sd.Vc (C:=C) (c:=c) (k:=l) hm).trans (Sd.atg (c:=Sd.bt C c l m) h1.hb (by show c.t.ay≠4;omega) (by show l≠c.t.ay;omega) h1.he Iz (by rw[h1.qw l lk,decide_eq_false_iff_not];omega) (by rw[h1.ql,h1.hp,hq];omega));rw[e];refine⟨⟨h1.hp,h1.h0,h1.hb,h1.he,h1.on,h1.dr,?_,λj hj=>?_⟩,s1.A6 rfl,rfl⟩
 ·show(Sd.Q.insert _ _).length=_;rw[Sd.length_insert,h1.ql];omega
 ·show Sd.Q.waits (Sd.Q.insert _ _) j=_;rw[Sd.auf,h1.qw j hj];by_cases e:l=j
  ·rw[decide_eq_true e,Bool.true_or];symm;rw[decide_eq_true_eq];omega
  ·rw[decide_eq_false e,Bool.false_or];have:(j<=((min n q:Nat):Int))=(j<=((min (n+1) q:Nat):Int)):=propext (by omega);simp only[this]
theorem adT (hT:Sd.uT C) (h:nZ p q a n c) (hs:Sd.jq c l key r hi) {e:Int} (nV:hi<m.seq/\0<=m.seq/\m.seq<=4294967295) (he:Sd.lj C c l m=Sd.uS (Sd.bt C c l m) l m.seq e):
 nZ p q a n (Sd.lj C c l m).1/\Sd.jq (Sd.lj C c l m).1 l key r m.seq/\(Sd.lj C c l m).2=[(l,{kind:=132,seq:=m.seq,code:=e})]:=by
 rw[he];exact⟨Nx (C:=C) h hs m.seq,(hs.bW hT nV).2,rfl⟩
theorem adU (hT:Sd.uT C) (h:nZ p q a n c) (hs:Sd.jq c l key r hi) (hl:(q:Int)<l) (hq:p.queue=(q:Int)) (hn:q<=n) (hm:m.kind=5) (Iz:m.now=false) (nV:hi<m.seq/\0<=m.seq/\m.seq<=4294967295):
 nZ p q a n (Sd.lj C c l m).1/\Sd.jq (Sd.lj C c l m).1 l key r m.seq/\(Sd.lj C c l m).2=[(l,{kind:=132,seq:=m.seq,code:=3})]:=by
 have h1:=Nx (C:=C) h hs m.seq;have hh:=h.h0;have lk:=hs.lk;exact adT hT h hs nV ((Sd.Vc (C:=C) (c:=c) (k:=l) hm).trans (Sd.ati (c:=Sd.bt C c l m) h1.hb (by show c.t.ay≠4;omega) (by show l≠c.t.ay;omega) h1.he Iz (by rw[h1.qw l lk,decide_eq_false_iff_not];omega) (by rw[h1.ql,h1.hp,hq];omega)))
theorem avo (hT:Sd.uT C) (h:nZ p q a n c) (hs:Sd.jq c l key r hi) (hl:l<=(n:Int)) (Nb:l<=(q:Int)) (hm:m.kind=5) (Iz:m.now=false) (nV:hi<m.seq/\0<=m.seq/\m.seq<=4294967295):
 nZ p q a n (Sd.lj C c l m).1/\Sd.jq (Sd.lj C c l m).1 l key r m.seq/\(Sd.lj C c l m).2=[(l,{kind:=132,seq:=m.seq,code:=27})]:=by
 have h1:=Nx (C:=C) h hs m.seq;have hh:=h.h0;have lk:=hs.lk;exact adT hT h hs nV ((Sd.Vc (C:=C) (c:=c) (k:=l) hm).trans (Sd.ath (c:=Sd.bt C c l m) h1.hb (by show c.t.ay≠4;omega) (by show l≠c.t.ay;omega) h1.he Iz (by rw[h1.qw l lk,decide_eq_true_eq];omega)))
end
theorem adV {x:gp} {p:Nat->Int} {m:Nat->Nat} {r1:Nat} (h2:r1<=2) (hM:Made x p m):AQ p (B9 r1 p):=by
 have h:=adO hM;have e:∀i,i≠48->i≠46->B9 r1 p i=nY p i:=λi h1 h2=>by
  unfold B9;have b1:aq i 48=false:=by cases h:aq i 48 with|false=>rfl|true=>exact absurd (ck h) h1
  have b2:aq i 46=false:=by cases h:aq i 46 with|false=>rfl|true=>exact absurd (ck h) h2
  rw[b1,b2];rfl
 refine⟨λi hi=>by rw[e i (by omega) (by omega)];exact h.lo i hi,h.r9,λi hi=>by rw[e i (by omega) (by omega)];exact h.zI i hi,λi hi=>by rw[e i (by omega) (by omega)];exact h.ag i hi,λi hi=>by rw[e i (by omega) (by omega)];exact h.gr i hi,λi hi=>by rw[e i (by omega) (by omega)];exact h.mo i hi,λi h1 h2=>?_,h.be,λi h1 h2=>?_,λi hi=>by rw[e i (by omega) (by omega)];exact h.li i hi,by rw[e 55 (by omega) (by omega)];exact h.ep⟩
 ·by_cases h46:i=46
  ·subst h46;show 1<=(1:Int)/\(1:Int)<=1000;decide
  ·rw[e i (by omega) h46];exact h.ti i h1 h2
 ·by_cases DA:i=48
  ·subst DA;show 1<=cJ (1+r1)/\cJ (1+r1)<=3;simp only[xy];omega
  ·rw[e i DA (by omega)];exact h.qs i h1 h2
theorem VT:Sd.Bd 0:=⟨by decide,by decide⟩
section
variable{tg tc:aG} {u:ae} {x:gp} {x0 x1 x2:Int} {K:V->Prop} {p:Nat->Int} {m d:Nat->Nat} {it:Nat} {k:LK} {s:Sd.aa} {F:aW bO (aR k s)}
theorem VU {p2:Sd.aN} {q n j:Nat} {l:Int} {b:Bool} {c:Sd.Core} {X:(s3:Sd.aa)->aW bO (aR k (cE s3))->Prop} (hB:jX tg tc k s F) (aM:s.at_ c []) (hA:Sd.uU p2) (h:nZ p2 q n n c) (hq:p2.queue=(q:Int)) (IA:p2.d_=3) (hr:1<=lM x2/\lM x2<=3) (hl:l=(n:Int)+1) (h3:l<=3) (hj:j=n) (hkk:p2.k j=(m j,uR x u j)) (hm:1<=m j/\m j<=64) (hb:b=decide (n<q))
 (hX:∀(s3:Sd.aa) (F3:aW bO (aR k (cE s3))) (c3:Sd.Core) (L:List (Int×Sd.aE)),jX tg tc k (cE s3) F3->s3.at_ c3 L->nZ p2 q (n+1) (n+1) c3->X s3 F3):Iw (aJ aH) tg tc u x x2 K m d it j l b k s F X:=by
 unfold Iw;have lk:1<=l/\l<=3:=by omega
 have UH:l.toNat-1=j:=by omega
 refine Iy hB aM (by rw[h.hp];exact hA) lk hr (by rw[h.hp,UH];exact hkk) hm (rX _ _) (by rw[h.dr _ (by omega)];decide) (.inr (by rw[h.hp,IA];exact avg lk (by rw[h.on l lk,decide_eq_false_iff_not];omega))) λs1 key F1 VI B1 zJ e1=>?_;have S1:Sd.jq (Sd.oM (aJ aH) c l (lM x2)) l key (lM x2) 0:=by rw[e1];exact Sd.atp lk
 have R1:=avm (C:=aJ aH) (r:=lM x2) h hl h3;refine VP B1 zJ S1 (⟨by decide,.inr (.inl ⟨rfl,rfl⟩)⟩:ll {Sd.eT 5 with seq:=7}) (by show(0:Int)<7;decide) λs2 r2 Is F2 B2 mj t_ xP=>?_;by_cases hn:n<q
 ·obtain⟨R2,S2,L2⟩:=avn (C:=aJ aH) (m:={Sd.eT 5 with seq:=7}) zF R1 S1 hl hq hn rfl rfl (by show(0:Int)<7/\(0:Int)<=7/\(7:Int)<=4294967295;decide);rw[L2]at mj;refine VP B2 (Ix mj) S2 (⟨by decide,.inr (.inl ⟨rfl,rfl⟩)⟩:ll {Sd.eT 5 with seq:=8}) (by show(7:Int)<8;decide) λs3 r3 fn3 F3 B3 mW hf3 avp=>?_;obtain⟨R3,S3,L3⟩:=avo (C:=aJ aH) (m:={Sd.eT 5 with seq:=8}) zF R2 S2 (by omega) (by omega) rfl rfl (by show(7:Int)<8/\(0:Int)<=8/\(8:Int)<=4294967295;decide);rw[L3]at mW;have q2:mV s2 l={kind:=131,seq:=7}:=by unfold mV;rw[mj.2,Sd.Ik];rfl
  have q3:mV s3 l={kind:=132,seq:=8,code:=27}:=by unfold mV;rw[mW.2,Sd.Ik];rfl
  unfold VM;rw[q2,q3,hb,decide_eq_true hn,cond_true];exact mU rfl (mU rfl (mU rfl (mU rfl (mU rfl (hX s3 F3 _ _ B3 mW R3)))))
 ·obtain⟨R2,S2,L2⟩:=adU (C:=aJ aH) (m:={Sd.eT 5 with seq:=7}) zF R1 S1 (by omega) hq (by omega) rfl rfl (by show(0:Int)<7/\(0:Int)<=7/\(7:Int)<=4294967295;decide);rw[L2]at mj;refine VP B2 (Ix mj) S2 (⟨by decide,.inr (.inl ⟨rfl,rfl⟩)⟩:ll {Sd.eT 5 with seq:=8}) (by show(7:Int)<8;decide) λs3 r3 fn3 F3 B3 mW hf3 avp=>?_;obtain⟨R3,S3,L3⟩:=adU (C:=aJ aH) (m:={Sd.eT 5 with seq:=8}) zF R2 S2 (by omega) hq (by omega) rfl rfl (by show(7:Int)<8/\(0:Int)<=8/\(8:Int)<=4294967295;decide);rw[L3]at mW;have q2:mV s2 l={kind:=132,seq:=7,code:=3}:=by unfold mV;rw[mj.2,Sd.Ik];rfl
  have q3:mV s3 l={kind:=132,seq:=8,code:=3}:=by unfold mV;rw[mW.2,Sd.Ik];rfl
  unfold VM;rw[q2,q3,hb,decide_eq_false hn,cond_false];refine mU rfl (mU rfl (mU rfl (mU rfl (mU rfl (mU rfl (hX s3 F3 _ _ B3 mW ⟨R3.hp,R3.h0,R3.hb,R3.he,R3.on,R3.dr,?_,λj hj=>?_⟩))))))
  ·rw[R3.ql];omega
  ·rw[R3.qw j hj];have:min n q=min (n+1) q:=by omega
   rw[this]
theorem avq {r1:Nat} (h1:r1=0\/r1=1\/r1=2) (hM:Made x p m) (h2:0<=x2/\x2<=255) (hK:K (.bool true)):VN (aJ aH) tg tc u x x2 K (B9 r1 p) m d it r1:=by
 unfold VN;have hr:=adR h2;refine adK hM (adV (by omega) hM) λp2 k F hB hi hk nu=>?_;have hA:=adP (adV (by omega) hM) hi;have IA:p2.d_=3:=hi 49 (by decide) rfl;have gY:p2.pj=1:=hi 46 (by decide) rfl;have hq:p2.queue=((1+r1:Nat):Int):=hi 48 (by decide) rfl;have hbe:p2.beyond=B9 r1 p 47:=hi 47 (by decide) rfl;have mh:p2.af=nY p 55:=hi 55 (by decide) rfl;have avr:=(avh hM);have bb:0<=p2.beyond/\p2.beyond<=1000:=hB.c.i.p.beyond;have hw:i64.wrap (B9 r1 p 47+1)=p2.beyond+1:=by rw[hbe,te (by rw[<-hbe];omega)]
 rw[hw];have El:(gT p2).at_ (Sd.Core.new p2) []:=⟨⟨_,rfl⟩,rfl⟩;have hh4:(Sd.Core.new p2).t.ay≠0:=by show(4:Int)≠0;decide
 have he:p2.af<60000:=by rw[mh];exact avr.2
 refine avk hB ⟨by show-9223372036854775808<=p2.beyond+1/\p2.beyond+1<=9223372036854775807;omega,VT,VT,VT⟩ λs0 e0 r0 fn0 F0 B0=>?_;have uK:=Sd.ate (C:=aJ aH) El (x:=⟨true,⟨p2.beyond+1,0,0,0⟩,false⟩) rfl hh4;rw[<-e0]at uK;obtain⟨z,ez,z1,z2,z3,z4,z5⟩:=Sd.aue (c:=Sd.Core.new p2) (x:=⟨true,⟨p2.beyond+1,0,0,0⟩,false⟩) rfl (Sd.auc (by show p2.beyond<p2.beyond+1;omega)) gY hh4 (by show p2.af<65535;omega);unfold Sd.aa.res at uK;rw[ez]at uK;have R0:nZ p2 (1+r1) 0 0 (Sd.zC z ((Sd.Core.new p2).t.pass 0 ((Sd.Core.new p2).t.af+1))).1:=by
  refine⟨z1,rfl,rfl,by show p2.af+1<65535;omega,λj hj=>?_,λj _=>?_,?_,λj hj=>?_⟩
  ·show z.ag.de j=_;rw[z3,Sd.tu hj];symm;show decide _=false;rw[decide_eq_false_iff_not];omega
  ·show(z.doors j).many=0;rw[z4];rfl
  ·show(Sd.Q.drop z.q _).length=_;rw[z2];show 0=_;omega
  ·show Sd.Q.waits (Sd.Q.drop z.q _) j=_;rw[z2];symm;show decide _=false;rw[decide_eq_false_iff_not];omega
 refine VU B0 (Ix uK) hA R0 hq IA hr rfl (by decide) rfl (hk 0 (by decide)) (nu 0 (by decide)) (by symm;rw[decide_eq_true_eq];omega) λs1 F1 c1 L1 B1 zJ R1=>?_;refine VU B1 (Ix zJ) hA R1 hq IA hr rfl (by decide) rfl (hk 1 (by decide)) (nu 1 (by decide)) (by rcases h1 with rfl|rfl|rfl<;>rfl) λs2 F2 c2 L2 B2 mj R2=>?_;refine VU B2 (Ix mj) hA R2 hq IA hr rfl (by decide) rfl (hk 2 (by decide)) (nu 2 (by decide)) (by rcases h1 with rfl|rfl|rfl<;>rfl) λs3 F3 c3 L3 B3 mW R3=>?_;refine Nt B3 (czT (by rw[(Nu mW).1,R3.h0];rfl) (Nt B3 ?_));have e3:((s3.c.q.length:Int)==cJ (1+r1))=true:=by
  rw[(Nu mW).2.1,R3.ql,show min (0+1+1+1) (1+r1)=1+r1 by omega];simp
 rw[e3];exact hK
end
section
variable{tg tc:aG} {u:ae} {x:gp} {f:Nat->Nat×Sd.av} {x0 x1 x2:Int} {K:V->Prop}
theorem xq {r0 r1:Nat} (hr:UC x u) (e0:(i64.wrap x0).tmod 3=cJ r0) (e1:(i64.wrap x1).tmod 3=cJ r1) (h0:r0=0\/r0=1\/r0=2) (h1:r1=0\/r1=1\/r1=2) (h2:0<=x2/\x2<=255) (hK:K (.bool true)):uZ (aJ aH) tg tc u x x0 x1 x2 K 21 r0 r1:=
 ⟨⟨rfl,rfl,rfl,rfl⟩,hr,λp m d hM=>⟨e0,avl h0 hM h2 λp2 k s=>⟨e1,avq h1 hM h2 hK⟩⟩⟩
theorem avs (hr:UC x u) (h0:0<=x0/\x0<=255) (h1:0<=x1/\x1<=255) (h2:0<=x2/\x2<=255) (hK:K (.bool true)):∃r0 r1,uY (aJ aH) tg tc u x f x0 x1 x2 K r0 r1:=by
 rcases VQ h0 with e0|e0|e0<;>rcases VQ h1 with e1|e1|e1
 ·exact⟨0,0,by rw[au8];exact xq hr e0 e1 (by decide) (by decide) h2 hK⟩
 ·exact⟨0,1,by rw[au9];exact xq hr e0 e1 (by decide) (by decide) h2 hK⟩
 ·exact⟨0,2,by rw[au_];exact xq hr e0 e1 (by decide) (by decide) h2 hK⟩
 ·exact⟨1,0,by rw[ava];exact xq hr e0 e1 (by decide) (by decide) h2 hK⟩
 ·exact⟨1,1,by rw[avb];exact xq hr e0 e1 (by decide) (by decide) h2 hK⟩
 ·exact⟨1,2,by rw[avc];exact xq hr e0 e1 (by decide) (by decide) h2 hK⟩
 ·exact⟨2,0,by rw[avd];exact xq hr e0 e1 (by decide) (by decide) h2 hK⟩
 ·exact⟨2,1,by rw[ave];exact xq hr e0 e1 (by decide) (by decide) h2 hK⟩
 ·exact⟨2,2,by rw[avf];exact xq hr e0 e1 (by decide) (by decide) h2 hK⟩
end
theorem avt {W:ae} {tg tc:aG} (hG:W.heap[1]?=some (.cells (au .u32 64 cH) tg (0,0))) (hC:W.heap[0]?=some (.cells #[.bool false,.bool false,.bool false,.bool false,.bool false,.bool false,.bool false,.bool false,.bool false,.bool false,.bool true,.bool true] tc (0,0)))
 (q:Nat->Int) (ka:Nat->Option aO) (kn kc:Nat->Nat) (hr:∀j,j<4->kq W (ka j) (kn j) (kc j) (fk W (ka j))) {x0 x1 x2:Int} (h0:0<=x0/\x0<=255) (h1:0<=x1/\x1<=255) (h2:0<=x2/\x2<=255):
 aS prog 5 #[.agg (qW ⟨q,λ_=>(0,λ_=>0)⟩ ka kn kc).toArray,.agg #[.int .u8 x0,.int .u8 x1],.int .u8 x2] W λv w1=>v=.bool true/\Ch [] W w1:=by
 have S:=avi hG hC;obtain⟨r0,r1,cS⟩:=avs (tg:=tg) (tc:=tc) (u:=W) (x:=⟨q,ka,kn,kc⟩) (f:=λ_=>(0,λ_=>0)) (K:=λv=>v=.bool true) ⟨hr 0 (by decide),hr 1 (by decide),hr 2 (by decide),hr 3 (by decide)⟩ h0 h1 h2 rfl;have cR:(aD [1,0] [.agg [.eo ⟨q,λ_=>(0,λ_=>0)⟩ ka kn kc],.agg [.int .u8 x0,.int .u8 x1],.int .u8 x2]).toArray=#[.agg (qW ⟨q,λ_=>(0,λ_=>0)⟩ ka kn kc).toArray,.agg #[.int .u8 x0,.int .u8 x1],.int .u8 x2]:=by
  simp only[aD,den,ah,cl,cQ];rfl
 rw[<-cR];refine(eG (C:=tv prog gS (VE (aJ aH)) (VG 28 (gRo r0 r1)) adN λ_ _=>none) adL.T adL.Q 60 avj rfl S cS).mono ?_;rintro v w' ⟨x,more,bl',ch',rfl,h1,S',rfl⟩;exact⟨rfl,S'.ch⟩
end
end Go.Proofs.YtggfpcggakghnaaGreatDoor
namespace Go.Proofs.YtggfpcggakghnaaGreatDoor.coreRoom
open Go.ChangeShapes Go.WideShapes Go.ChangeAt Go.RowKit Go.Joins Sd Sx
theorem opened (H:Type) (enc:aG×ab->H) (W:ae) (args:Array ab) (ds gs:List (DataW H)) (before:List MemPlace)
 (Er:∀(j:Nat) t v,Tryz.f5.params[j]?=some t->args[j]?=some v->xB prog W .any 0 t v)
 (hW:DataW.Whole enc prog Tryz.f5.params.toList Rows.coreRoomSpec.vars false W args.toList ds gs before) (hL:laidMetH prog UD W):
 Rows.coreRoomSpec.fn H (ds++gs)={results:=[.lit (.bool true)],args:=ds,vars:=[]}/\Calls prog 5 args W λe W'=>e=.returned (.bool true)/\Below W.heap.size W W':=by
 obtain⟨p,q,hA,hV,rfl,zl,ub⟩:=hW;obtain⟨tG,hG⟩:=aru hL;obtain⟨tC,hC⟩:=arG hL;rw[Tryz.params5]at hA Er;obtain⟨v0,v1,v2,d0,d1,d2,p0,p1,p2,cR,rfl,ht⟩:=trodAll_three hA;have MM:=ht.2.1;obtain rfl:args=#[v0,v1,v2]:=by cases args;simp_all
 obtain⟨rfl,rfl⟩:=trodVars_none hV;obtain⟨pq,ka,kn,kc,rfl,hk⟩:=arI (Er 0 28 v0 rfl rfl) (λn=>by obtain⟨fuel,h⟩:=MM;exact Sx.MQ n h);obtain⟨x0,x1,rfl,h0,h1⟩:=arK (Er 1 29 v1 rfl rfl);obtain⟨y,rfl,hy⟩:=acA Tryz.underlying5 (arw Tryz.underlying5 rfl (Er 2 5 v2 rfl rfl));exact⟨rfl,Sx.aeb (avt hG hC pq ka kn kc hk h0 h1 hy)⟩
theorem own:ownKnob prog.godebug=none:=by kernel_rfl
def Ny:List (String×DataW Unit):=[("sidestick/gate.commands",Rows.laid_sidestick_gate_commands),("sidestick/sha.roots",ad7)]
theorem avu (os:Os) (args:Array ab):laidMetH prog Ny ((World.doorLaid prog 400 os).forCall (λ_ _=>0) ⟨#[],args,[]⟩).memory:=
 laidMetH_of_parts3 (fuel:=8) (laidMet_of_run' 8 (by kernel_rfl) (by kernel_rfl)) (by kernel_rfl) (by kernel_rfl)
theorem lifted (os:Os) (started:os.Started) (H:Type) (enc:aG×ab->H):
 ReturnsInHanded {} ad9 os 5 .any (λw args=>(Rows.coreRoomSpec.pre enc prog Tryz.f5 [] false w args/\laidMetH prog Ny w)/\sizedMet enc prog Tryz.f5 (OpenSpec.ofChange Rows.coreRoomSpec) false w args)
  (Rows.coreRoomSpec.post enc prog Tryz.f5 false true false false):=by
 refine returnsInHanded_of_change_and (C:=ad9) (X:=λw _=>laidMetH prog Ny w) (λ_ _ _ hh h=>h.of_heap hh) own started (by kernel_rfl) Tryz.func5
  (ChangeSpec.witness_shaped (enc:=enc) (C:=ad9) (os:=os) (X:=λw _=>laidMetH prog Ny w) false (World.doorLaid prog 400 os) #[.agg #[.int .i64 0,.int .i64 0,.int .i64 0,.int .i64 0,.int .i64 0,.slice none 0 0,.slice none 0 0,.slice none 0 0,.slice none 0 0,.int .i64 0,.int .i64 0,.int .i64 0,.int .i64 0,.int .i64 0,.int .i64 0,.int .i64 0,.int .i64 0,.int .i64 0,.int .i64 0,.int .i64 0,.int .i64 0,.int .i64 0,.int .i64 0,.int .i64 0,.int .i64 0,.int .i64 0,.int .i64 0,.int .i64 0,.int .i64 0,.int .i64 0,.int .i64 0,.int .i64 0,.int .i64 0,.int .i64 0,.int .i64 0,.int .i64 0,.int .i64 0,.int .i64 0,.int .i64 0,.int .i64 0,.int .i64 0,.int .i64 0,.int .i64 0,.int .i64 0,.int .i64 0,.int .i64 0,.int .i64 0,.int .i64 0,.int .i64 0,.int .i64 0,.int .i64 0,.int .i64 0,.int .i64 0,.int .i64 0,.int .i64 0,.int .i64 0],.agg #[.int .u8 0,.int .u8 0],.int .u8 0] 8 rfl (World.shaped_of_RefB (by kernel_rfl) (by kernel_rfl)) (by kernel_rfl) (by kernel_rfl) (by kernel_rfl) (avu os _)) ?_
 intro W base args ds gs before Er hW _ _ hL _;obtain⟨hs,hc⟩:=opened H enc W args ds gs before Er hW hL;refine hc.mono λe W' ⟨he,hb⟩=>⟨_,he,?_⟩;exact arv (by kernel_rfl) (by kernel_rfl) rfl (by kernel_rfl) Tryz.underlying4 hs hW hb
end Go.Proofs.YtggfpcggakghnaaGreatDoor.coreRoom
namespace Go.Proofs.YtggfpcggakghnaaGreatDoor.coreRoom
theorem closed:joinedFacts Tryz.pinned.checked.prog 5 Tryz.f5 Rows.coreRoomSpec Rows.coreRoomRow=true:=by kernel_rfl
open Go.ChangeShapes Go.WideShapes Go.ChangeAt Go.RowKit Go.Joins Sd Sx
theorem said:Rows.CoreRoomSaid:=
 OpenClaim.holds_of_wide 5 Tryz.f5 rfl rfl rfl rfl rfl rfl rfl ⟨rfl,rfl,rfl,rfl,rfl⟩ rfl rfl rfl rfl rfl (by kernel_rfl) Tryz.func5 closed
  (of_decide_eq_true (by kernel_rfl)) (by unfold Func.isWrapper;first|(rw[if_pos (by decide+kernel)];kernel_rfl)|(rw[if_neg (by decide+kernel)];exact⟨rfl,rfl⟩))
  (λos started H enc _=>lifted os started H enc)
theorem proved:Rows.CoreRoomCardSaid:=
 Claim7.holds_tied_plain_at .later [] [.data,.data] true Rows.coreRoomCard.stood.harness true
  said (λ_ h=>by cases h) (by kernel_rfl) (λ_ h=>by cases h) coreRoom_row_tie rfl ⟨rfl,rfl⟩ (by kernel_rfl) rfl
  (λf fn hf Fe=>by
   obtain rfl:f=5:=cA ((show prog.funcNamed "sidestick/sidesticklaw24.CoreRoom" =some 5 by kernel_rfl).symm.trans hf)|>.symm;obtain rfl:fn=Tryz.f5:=(cA (Tryz.func5.symm.trans Fe)).symm;exact⟨by kernel_rfl,λj t ht=>by
    have dF:(Tryz.f5.params.toList.all λu=>!prog.wantsStandIn u)=true:=by kernel_rfl
    have hm:t∈Tryz.f5.params.toList:=by simpa using Array.mem_of_getElem? ht
    exact(show prog.wantsStandIn t=false by simpa using fR.1 dF t hm)⟩)
  (by kernel_rfl)
end Go.Proofs.YtggfpcggakghnaaGreatDoor.coreRoom
