/- CoreSpent: texts printed small. -/
import Derived.Test.YtggfpcggakghnaaGreatDoorCards
import Derived.Test.YtggfpcggakghnaaGreatDoorTie
import Derived.Lib.SmallJoins
import Derived.SevenTiedAt
import Derived.LaidMore
import Derived.Stop.Joined
import Derived.Test.YtggfpcggakghnaaGreatDoorRows
import Derived.ProofKit
import Derived.Test.YtggfpcggakghnaaGreatDoorS15
import Derived.Test.YtggfpcggakghnaaGreatDoorS16
import Derived.Test.YtggfpcggakghnaaGreatDoorS17
set_option linter.all false
set_option maxRecDepth 100000
set_option maxHeartbeats 4000000
open Go.Proofs.Tryz
open Go.IntKind (u8 u16 u32 u64 i64)
namespace Go.Proofs.YtggfpcggakghnaaGreatDoor
open Go Go.RowKit Go.BigFrame Sx Vx
theorem Zx {s:Sd.Scene} {c:Sd.Core} {l:List (Int×Sd.Reply)} (h:s.at_ c l):s.c.t=c.t/\s.c.q=c.q/\s.c.mode=c.mode/\s.c.bj=c.bj/\s.c.tab=c.tab/\s.c.p=c.p/\s.c.pt=c.pt:=by
 obtain⟨⟨x,e⟩,_⟩:=h;rw[e];exact⟨rfl,rfl,rfl,rfl,rfl,rfl,rfl⟩
theorem yy {s:Sd.Scene} {c:Sd.Core} {l:List (Int×Sd.Reply)} (h:s.at_ c l):(fS s).at_ c []:=⟨h.1,rfl⟩
section
variable{tg tc:TypeId} {it:Nat} {k:LK} {s:Sd.Scene} {F:bN eB (bA k s)} {l r:Int} {c:Sd.Core}
theorem Lm {n cc:Nat} {f:Sd.Byt} {X:(s':Sd.Scene)->Sd.Byt->Sd.Reply->bN eB (bA k s')->List av->Prop} (hB:Fu tg tc k s F) (ba:s.at_ c []) (hA:Sd.yW c.p) (hl:1<=l/\l<=3) (hr:1<=r/\r<=3) (hk:c.p.k (l.toNat-1)=(n,f)) (hn:1<=n/\n<=64) (hc:n<=cc) (hd:(c.doors (l.toNat-1)).many<4294967295) (hs:c.tab.cZ l=true\/c.tab.many<c.p.aR)
 (hX:∀(s':Sd.Scene) (key:Sd.Byt) (F':bN eB (bA k s')) (vI:List av),Fu tg tc k s' F'->s'.at_ (Sd.gC (ah aT) c l r) []->key=(ah aT).key (c.p.k (l.toNat-1)) l r (Sd.uV (ah aT) c l)->X s' key {kind:=130,role:=r,fT:=c.t.holder,epoch:=c.t.epoch} F' vI):
 Oz (ah aT) tg tc it k s F n cc f l r X:=by
 have ht:=hA.fm hl hr;have J_:0<=r/\r<=3:=by omega
 refine Vw hB hc hn hl J_ (aaJ ba J_ hl ht hd) λs' key rep e F' vI B=>?_;obtain⟨s1,E,a1⟩:=aaK (n:=n) (f:=f) ba J_ hl hk ht hd hs;rw[E]at e;simp only[Prod.mk.injEq]at e;obtain⟨rfl,rfl,rfl⟩:=e;exact hX _ _ F' vI B a1 (by rw[hk];rfl)
theorem jG {key:Sd.Byt} {m:Sd.bW} {role hi:Int} {X:(s':Sd.Scene)->TR->List av->bN eB (bA k (fS s'))->Prop} (hB:Fu tg tc k s F) (ba:s.at_ c []) (hS:Sd.FA c l key role hi) (hm:lx m) (hn:hi<m.seq)
 (hX:∀(s':Sd.Scene) (r:TR) (fn:List av) (F0:bN eB (bA k (fS s'))),Fu tg tc k (fS s') F0->s'.at_ (Sd.eJ (ah aT) c l m).1 (Sd.eJ (ah aT) c l m).2->mg eB s'.sent r.fv fn->(∀y∈s'.sent,Sd.kr y)/\s'.sent.length<=10->X s' r fn F0):Ct (ah aT) tg tc it k s F key l m X:=by
 refine Vy hB hS.lk hm λs' e r fn F0 B hf hs=>hX s' r fn F0 B ?_ hf hs;have:=af5 ba hS hm hn;rw[<-e]at this;unfold Sd.Scene.res at this
 rwa [List.nil_append]at this
end
theorem aaW {t:Sd.Tab} {l:Int} (hl:1<=l/\l<=3) (h:t.cZ l=false):t.many<3:=by
 rw[Sd.IK t (t.cZ 1) (t.cZ 2) (t.cZ 3) rfl rfl rfl];rcases(by omega:l=1\/l=2\/l=3)with rfl|rfl|rfl<;>rw[h]<;>split<;>(try split)<;>(try split)<;>simp_all
theorem aaX {C:Sd.Crypt} {c:Sd.Core} {a b r:Int} (ha:1<=a/\a<=3) (hb:1<=b/\b<=3) (h:a≠b):(Sd.gC C c a r).doors (b.toNat-1)=c.doors (b.toNat-1):=by
 show(if b.toNat-1=a.toNat-1 then _ else _)=_;rw[if_neg (by omega)]
theorem Ln {x:ij} {p:Nat->Int} {m:Nat->Nat} (hM:Made x p m):AQ p (ub p):=by
 have bT:∀{a b:Nat},a<=b->Nat.ble a b=true:=λh=>Nat.ble_eq_true_of_le h;have bF:∀{a b:Nat},b<a->Nat.ble a b=false:=λ{a b} h=>by cases hb:Nat.ble a b with|false=>rfl|true=>exact absurd (Nat.le_of_ble_eq_true hb) (by omega)
 have qF:∀{a b:Nat},a≠b->Nat.beq a b=false:=λ{a b} h=>by cases hb:Nat.beq a b with|false=>rfl|true=>exact absurd (Nat.eq_of_beq_eq_true hb) h
 have h55:p 55=bits .and .i64 (x.q 55) 65535:=hM.I.lo 55 (by decide);have b55:=Uo (x.q 55);refine⟨λi hi=>?_,⟨rfl,rfl⟩,λi hi=>?_,λi hi=>?_,λi hi=>?_,λi hi=>?_,λi h1 h2=>?_,rfl,λi h1 h2=>?_,λi hi=>?_,?_⟩
 ·unfold ub;rw[bT (by omega:i<=13),qF (show i≠9 by omega),qF (show i≠13 by omega),bF (show i<10 by omega)];rfl
 ·unfold ub;rw[bT (by omega:i<=13),qF (show i≠9 by omega),qF (show i≠13 by omega),bT hi.1];rfl
 ·unfold ub;rw[bF (show 13<i by omega),bT hi.2];rfl
 ·unfold ub;rw[bF (show 13<i by omega),bF (show 33<i by omega),bT hi.2];rfl
 ·unfold ub;rw[bF (show 13<i by omega),bF (show 33<i by omega),bF (show 38<i by omega),qF (show i≠42 by omega),qF (show i≠44 by omega),qF (show i≠45 by omega),qF (show i≠48 by omega),qF (show i≠49 by omega),qF (show i≠55 by omega)];rfl
 ·have ht:=hM.I.ti;rcases(by omega:i=42\/i=43\/i=44\/i=45\/i=46)with rfl|rfl|rfl|rfl|rfl
  ·show 1<=(900:Int)/\(900:Int)<=1000;decide
  ·exact ht 43 (by decide) (by decide)
  ·show 1<=(900:Int)/\(900:Int)<=1000;decide
  ·show 1<=(900:Int)/\(900:Int)<=1000;decide
  ·exact ht 46 (by decide) (by decide)
 ·rcases(by omega:i=48\/i=49)with rfl|rfl<;>(show 1<=(3:Int)/\(3:Int)<=3;decide)
 ·unfold ub;rw[bF (show 13<i by omega),bF (show 33<i by omega),bF (show 38<i by omega),qF (show i≠42 by omega),qF (show i≠44 by omega),qF (show i≠45 by omega),qF (show i≠48 by omega),qF (show i≠49 by omega),qF (show i≠55 by omega)];rfl
 ·show 0<=(p 55).tmod 60000/\(p 55).tmod 60000<=65535;rw[Int.tmod_eq_emod_of_nonneg (by omega)];omega
theorem aaY {p:Nat->Int} {q:Nat->Int} {p2:Sd.Pol} (h:AQ p q) (hi:∀i,i<56->iZ i=false->p2.i i=q i):Sd.yW p2 where
 vX i uD:=by rw[hi i (by omega) (j5 (by omega))];exact h.Zw i uD
 table i uD:=by rw[hi i (by omega) (j5 (by omega))];exact h.tab i uD
 graph i uD:=by rw[hi i (by omega) (j5 (by omega))];exact h.gr i uD
theorem Wb {tg tc:TypeId} {it:Nat} {k:LK} {p2:Sd.Pol} {F:bN eB (bA k (ib p2))} {a b ra rb:Int} {ja jb ca cb:Nat} {m:Nat->Nat} {f:Nat->Sd.Byt} {X:(s1:Sd.Scene)->Sd.Byt->Sd.Reply->(s2:Sd.Scene)->Sd.Byt->Sd.Reply->bN eB (bA k s2)->List av->Prop} (hB:Fu tg tc k (ib p2) F) (hA:Sd.yW p2) (h3:p2.aR=3) (ha:1<=a/\a<=3) (hb:1<=b/\b<=3) (mB:a≠b) (hja:ja=a.toNat-1) (hjb:jb=b.toNat-1) (hra:1<=ra/\ra<=3) (hrb:1<=rb/\rb<=3)
 (hk:∀j,j<4->p2.k j=(m j,f j)) (hm:∀j,j<4->1<=m j/\m j<=64) (hca:m ja<=ca) (hcb:m jb<=cb)
 (hX:∀(s1:Sd.Scene) (one:Sd.Byt) (r1:Sd.Reply) (s2:Sd.Scene) (two:Sd.Byt) (r2:Sd.Reply) (F2:bN eB (bA k s2)) (Wa:List av) (c:Sd.Core),Fu tg tc k s2 F2->s2.at_ c []->Sd.HS p2 a b one two ra rb c 0 0 (Sd.Core.new p2).t p2.start ⟨2,4,0⟩ []->Sd.Still c.tab p2.bh 0->X s1 one r1 s2 two r2 F2 Wa):
 Oz (ah aT) tg tc it k (ib p2) F (m ja) ca (f ja) a ra λs1 one r1 F1 fB1=>Oz (ah aT) tg tc it k s1 F1 (m jb) cb (f jb) b rb λs2 two r2 F2 Wa=>X s1 one r1 s2 two r2 F2 Wa:=by
 have aaD:(ib p2).at_ (Sd.Core.new p2) []:=⟨⟨_,rfl⟩,rfl⟩;have hbe:=hB.c.i.p.bh;have akm:1<=p2.bh/\p2.bh<=1000:=hbe;refine Lm hB aaD hA ha hra (by rw[<-hja];exact hk ja (by omega)) (hm ja (by omega)) hca (by show(0:Int)<4294967295;decide) (.inr (by show Sd.Tab.new.many<p2.aR;rw[h3];decide)) λs1 one F1 fB1 B1 at1 e1=>?_;have off:(Sd.gC (ah aT) (Sd.Core.new p2) a ra).tab.cZ b=false:=Sd.U5 ha hb mB (by rw[Sd.jD hb];rfl);refine Lm B1 at1 hA hb hrb (by rw[<-hjb];exact hk jb (by omega)) (hm jb (by omega)) hcb (by rw[aaX ha hb mB];show(0:Int)<4294967295;decide) (.inr (by show(Sd.gC (ah aT) (Sd.Core.new p2) a ra).tab.many<p2.aR;rw[h3];exact aaW hb off)) λs2 two F2 Wa B2 at2 e2=>?_;have S0:Sd.Still (Sd.Core.new p2).tab p2.bh 0:=Sd.Ol _;have S1:=Sd.ko (C:=ah aT) (k:=a) (r:=ra) (m:=p2.bh) (by omega) rfl S0;have S2:=Sd.ko (C:=ah aT) (c:=Sd.gC (ah aT) (Sd.Core.new p2) a ra) (k:=b) (r:=rb) (m:=p2.bh) (by omega) rfl S1;refine hX s1 one _ s2 two _ F2 Wa _ B2 at2 ⟨rfl,Sd.U4 ?_ hb mB.symm,?_,rfl,rfl,rfl,rfl⟩ S2
 ·rw[e1];exact Sd.zY ha
 ·rw[e2];exact Sd.zY hb
theorem aaZ {W:World} {tg tc:TypeId} (hG:W.heap[1]?=some (.cells (ak .u32 64 aX) tg (0,0))) (hC:W.heap[0]?=some (.cells #[.bool false,.bool false,.bool false,.bool false,.bool false,.bool false,.bool false,.bool false,.bool false,.bool false,.bool true,.bool true] tc (0,0))):
 St [] W (lits [1,0] [1,0] [gi tg,sf tc]++af [LG.cn (fr:=eB) W] []) W:=by
 refine St.K2 ?_;intro y hy;rcases List.mem_append.1 hy with hy|hy
 ·simp only[lits,List.mem_cons,List.not_mem_nil,or_false]at hy;rcases hy with rfl|rfl
  ·exact⟨rfl,hG.trans (by kernel_rfl)⟩
  ·exact⟨rfl,hC.trans (by kernel_rfl)⟩
 ·have:y∈du W:=by
   rcases List.mem_append.1 (show y∈du W++[]from hy)with h|h
   ·exact h
   ·cases h
  exact afG W y this
theorem agh:Gl gS [1,0]:=by
 intro g j hg;unfold gS at hg;split at hg
 ·obtain rfl:=Option.some.inj hg;exact⟨by simp,rfl⟩
 ·obtain rfl:=Option.some.inj hg;exact⟨by simp,rfl⟩
 ·cases hg
theorem Lo {x:Int} (h:0<=x/\x<=255):(i64.wrap x).tmod 3=Int.ofNat 0\/(i64.wrap x).tmod 3=Int.ofNat 1\/(i64.wrap x).tmod 3=Int.ofNat 2:=by
 rw[fG (by omega),Int.tmod_eq_emod_of_nonneg h.1];simp only[Int.ofNat_eq_natCast];omega
section
variable{tg tc:TypeId} {it:Nat} {k:LK} {s:Sd.Scene} {F:bN eB (bA k s)} {c:Sd.Core}
theorem aaa {x:Sd.dS} {X:(s':Sd.Scene)->TR->List av->bN eB (bA k (fS s'))->Prop} (hB:Fu tg tc k s F) (hx:Sd.Ku x.x) (hX:∀s',s'=s.dU (ah aT) x->∀(r:TR) (fn:List av) (F0:bN eB (bA k (fS s'))),Fu tg tc k (fS s') F0->X s' r fn F0):ai5 tg tc it k s F ((dv s).dU (ah aT) x) X:=by
 refine⟨hB.eY,hB.co,?_⟩;rw[iB];intro s' e r fn F0 v1 v2 _;refine hX s' e r fn F0 ⟨hB.tg,hB.tc,?_,hB.zF,?_,v1,v2⟩
 ·show s'.c.p.queue=k.most;rw[e,ajm (Sd.HU (C:=ah aT) (b:=False) hB.c.i)];exact hB.q
 ·rw[e];exact hB.c.dU hx
theorem aaA {b:Bool} {X:(s':Sd.Scene)->TR->List av->bN eB (bA k (fS s'))->Prop} (hB:Fu tg tc k s F) (hX:∀s',s'=s.jg (ah aT) b->∀(r:TR) (fn:List av) (F0:bN eB (bA k (fS s'))),Fu tg tc k (fS s') F0->X s' r fn F0):ai5 tg tc it k s F ((dv s).jg (ah aT) b) X:=by
 refine⟨hB.eY,hB.co,?_⟩;rw[iB];intro s' e r fn F0 v1 v2 _;refine hX s' e r fn F0 ⟨hB.tg,hB.tc,?_,hB.zF,?_,v1,v2⟩
 ·show s'.c.p.queue=k.most;rw[e,ajm (Sd.HV (C:=ah aT) (b:=False) hB.c.i)];exact hB.q
 ·rw[e];exact hB.c.jg b
end
theorem aaV {x:ij} {p:Nat->Int} {m:Nat->Nat} (hM:Made x p m):AQ p (spQ p):=by
 have h:=Ln hM;have e:∀i,i≠55->i≠46->spQ p i=ub p i:=λi h1 h2=>by
  unfold spQ;have b1:Nat.beq i 55=false:=by cases h:Nat.beq i 55 with|false=>rfl|true=>exact absurd (Nat.eq_of_beq_eq_true h) h1
  have b2:Nat.beq i 46=false:=by cases h:Nat.beq i 46 with|false=>rfl|true=>exact absurd (Nat.eq_of_beq_eq_true h) h2
  rw[b1,b2];rfl
 refine⟨λi hi=>by rw[e i (by omega) (by omega)];exact h.lo i hi,h.r9,λi hi=>by rw[e i (by omega) (by omega)];exact h.Zw i hi,λi hi=>by rw[e i (by omega) (by omega)];exact h.tab i hi,λi hi=>by rw[e i (by omega) (by omega)];exact h.gr i hi,λi hi=>by rw[e i (by omega) (by omega)];exact h.mo i hi,λi h1 h2=>?_,h.be,λi h1 h2=>by rw[e i (by omega) (by omega)];exact h.qs i h1 h2,λi hi=>by rw[e i (by omega) (by omega)];exact h.li i hi,by show 0<=(65534:Int)/\(65534:Int)<=65535;decide⟩;by_cases h46:i=46
 ·subst h46;show 1<=(1:Int)/\(1:Int)<=1000;decide
 ·rw[e i (by omega) h46];exact h.ti i h1 h2
theorem V6:Sd.Bd 0:=⟨by decide,by decide⟩
theorem Ft {a:Int} (r:Sd.Reply):Sd.aQ [(a,r)] a=[r]:=Sd.yj a r
section
variable{tg tc:TypeId} {u:World} {x:ij} {x0 x1:Int} {nw:Bool} {K:V->Prop} {p:Nat->Int} {m d:Nat->Nat}
theorem aeV {a b:Int} {ja jb:Nat} (hM:Made x p m) (mB:a≠b) (ha:1<=a/\a<=3) (hb:1<=b/\b<=3) (hja:ja=a.toNat-1) (hjb:jb=b.toNat-1) (hK:K (.bool true)):spB (ah aT) tg tc u x nw K (spQ p) m d a b ja jb:=by
 unfold spB;refine Vz hM (aaV hM) λp2 k F hB hi hk hmm=>?_;have hA:=aaY (aaV hM) hi;have e55:p2.epoch=65534:=hi 55 (by decide) rfl;have h3:p2.aR=3:=hi 49 (by decide) rfl;have sE:p2.oL=1:=hi 46 (by decide) rfl;have hbe:p2.beyond=spQ p 47:=hi 47 (by decide) rfl;have bb:=hB.c.i.p.beyond;have bb2:0<=p2.beyond/\p2.beyond<=1000:=bb;refine Wb hB hA h3 ha hb mB hja hjb (by decide) (by decide) hk hmm (Nat.le_add_right _ _) (Nat.le_add_right _ _) λs1 one r1 s2 two r2 F2 Wa c2 B2 at2 H2 _=>?_;refine jG B2 at2 H2.sa (⟨by decide,.inr (.inl ⟨rfl,rfl⟩)⟩:lx {Sd.aD 5 with seq:=1}) (by show(0:Int)<1;decide) λs3 r3 fn3 F3 B3 at3 hf3 hs3=>?_;obtain⟨H3,L3⟩:=Sd.afW (C:=ah aT) (m:={Sd.aD 5 with seq:=1}) iI H2 mB rfl (by show(0:Int)<1/\(0:Int)<=1/\(1:Int)<=4294967295;decide) rfl rfl (by show p2.epoch<65535;omega);rw[L3]at at3;generalize (Sd.eJ (ah aT) c2 a {Sd.aD 5 with seq:=1}).1=c3 at at3 H3;have q3:Q1 s3 a={kind:=131,seq:=1}:=by unfold Q1;rw[at3.2];simp[Sd.aQ,Sd.dr]
 have h65:(65535:Int)<=((Sd.Core.new p2).t.pass a ((Sd.Core.new p2).t.epoch+1)).epoch:=by show(65535:Int)<=p2.epoch+1;omega
 refine jG B3 (yy at3) H3.sb (⟨by show(0:Int)<=1/\(1:Int)<=4294967295;decide,.inr (.inl ⟨rfl,rfl⟩)⟩:lx {Sd.aD 5 with seq:=1,now:=nw}) (by show(0:Int)<1;decide) λs4 r4 fn4 F4 B4 at4 hf4 hs4=>?_;obtain⟨H4,L4⟩:=Sd.zz (C:=ah aT) (m:={Sd.aD 5 with seq:=1,now:=nw}) iI H3.swap mB.symm (by show(0:Int)<1/\(0:Int)<=1/\(1:Int)<=4294967295;decide) (e:=24) ((Sd.ajS (C:=ah aT) (c:=c3) (k:=b) rfl).trans (Sd.N_ (by show c3.t.bad=false;rw[H3.t];rfl) (by show b≠c3.t.holder;rw[H3.t];exact mB.symm) (by show 65535<=c3.t.epoch;rw[H3.t];exact h65)));rw[L4]at at4;generalize (Sd.eJ (ah aT) c3 b {Sd.aD 5 with seq:=1,now:=nw}).1=c4 at at4 H4;have q4:Q1 s4 b={kind:=132,seq:=1,code:=24}:=by unfold Q1;rw[at4.2,Ft];rfl
 refine jG B4 (yy at4) H4.sb (⟨by show(0:Int)<=2/\(2:Int)<=4294967295;decide,.inr (.inr (.inl ⟨rfl,by show 0<=b/\b<=4;omega,rfl⟩))⟩:lx {Sd.aD 6 with seq:=2,bx:=b}) (by show(1:Int)<2;decide) λs5 r5 fn5 F5 B5 at5 hf5 hs5=>?_;obtain⟨H5,L5⟩:=Sd.zz (C:=ah aT) (m:={Sd.aD 6 with seq:=2,bx:=b}) iI H4.swap mB (by show(1:Int)<2/\(0:Int)<=2/\(2:Int)<=4294967295;decide) (e:=24) ((Sd.agi (C:=ah aT) (c:=c4) (k:=a) rfl).trans (Sd.IH (by show a=c4.t.holder;rw[H4.t];rfl) (by show 65535<=c4.t.epoch;rw[H4.t];exact h65)));rw[L5]at at5;generalize (Sd.eJ (ah aT) c4 a {Sd.aD 6 with seq:=2,bx:=b}).1=c5 at at5 H5;have q5:Q1 s5 a={kind:=132,seq:=2,code:=24}:=by unfold Q1;rw[at5.2,Ft];rfl
 refine jG B5 (yy at5) H5.sa (⟨by show(0:Int)<=3/\(3:Int)<=4294967295;decide,.inl ⟨.inr rfl,rfl⟩⟩:lx {Sd.aD 9 with seq:=3}) (by show(2:Int)<3;decide) λs6 r6 fn6 F6 B6 at6 hf6 hs6=>?_;obtain⟨H6,L6⟩:=Sd.zz (C:=ah aT) (m:={Sd.aD 9 with seq:=3}) iI H5 mB (by show(2:Int)<3/\(0:Int)<=3/\(3:Int)<=4294967295;decide) (e:=24) ((Sd.agj (C:=ah aT) (c:=c5) (k:=a) rfl).trans (Sd.uB (by show a=c5.t.holder;rw[H5.t];rfl) (by show 65535<=c5.t.epoch;rw[H5.t];exact h65)));rw[L6]at at6;generalize (Sd.eJ (ah aT) c5 a {Sd.aD 9 with seq:=3}).1=c6 at at6 H6;have q6:Q1 s6 a={kind:=132,seq:=3,code:=24}:=by unfold Q1;rw[at6.2,Ft];rfl
 have hw:i64.wrap (-1-spQ p 47)=-1-p2.beyond:=by rw[hbe,fG (by rw[<-hbe];omega)]
 rw[hw];have ht6:(fS s6).c.t=(Sd.Core.new p2).t.pass a ((Sd.Core.new p2).t.epoch+1):=(Zx at6).1.trans H6.t;refine aaa B6 ⟨V6,V6,by show-9223372036854775808<=-1-p2.beyond/\-1-p2.beyond<=9223372036854775807;omega,V6⟩ λs7 e7 r7 fn7 F7 B7=>?_;have hp6:c6.p=p2:=H6.p;obtain⟨⟨z,hz,akl⟩,c7,at7,hp7,hq7,ht7⟩:=Sd.Ff (C:=ah aT) (s:=fS s6) (x:=⟨true,⟨0,0,-1-p2.beyond,0⟩,false⟩) (yy at6) rfl rfl (Sd.agk (by rw[hp6];show-1-p2.beyond< -p2.beyond;omega)) (by rw[hp6];exact sE) (by rw[H6.t];show a≠0;omega) (by rw[H6.t];exact h65);rw[<-e7]at hz at7;have t7:s7.c.t=(Sd.Core.new p2).t.pass a ((Sd.Core.new p2).t.epoch+1):=(Zx at7).1.trans (ht7.trans H6.t);have qq7:s7.c.q=[]:=(Zx at7).2.1.trans (hq7.trans H6.q);refine yw B7 ?_;rw[q4,q5,q6];refine czT rfl (czT rfl (czT rfl (czT (by rw[hz];rfl) ⟨⟨Int.le_refl _,by rw[hz];show(0:Int)<1;decide⟩,⟨by rw[hz];show 0<1;decide,λj=>rfl⟩,?_⟩)));have OD:((s7.recs.getD 0 default).code==24)=true:=by rw[hz];show(z.code==24)=true;rw[akl];rfl
 rw[OD];unfold spT;rw[q3,t7,qq7];refine CB rfl (CB (by show(a !=a)=false;simp) (CB (by show(p2.epoch+1!=65535)=false;rw[e55];rfl) (CB rfl (CB rfl (CB rfl ?_)))));refine aaA B7 λs8 e8 r8 fn8 F8 B8=>yw B8 ?_;have t8:s8.c.t=({(fS s7).c.t with bad:=true}:Sd.Tok).dO:=by rw[e8];exact Sd.VA _
 have hz8:=Sd.IY (t:=({(fS s7).c.t with bad:=true}:Sd.Tok)) (by show s7.c.t.epoch=65535;rw[t7];show p2.epoch+1=65535;omega);rw[t8,hz8.1,hz8.2];exact czT rfl hK
end
section
variable{tg tc:TypeId} {u:World} {x:ij} {f:Nat->Nat×Sd.Byt} {x0 x1:Int} {nw:Bool} {K:V->Prop}
theorem eb {r0 r1:Nat} {T:Prop->Prop} {a b:Int} {ja jb:Nat} (hr:rdA x u) (h0:(i64.wrap x0).tmod 3=Int.ofNat r0) (h1:(i64.wrap x1).tmod 3=Int.ofNat r1) (hT:∀X,X->T X) (mB:a≠b) (ha:1<=a/\a<=3) (hb:1<=b/\b<=3) (hja:ja=a.toNat-1) (hjb:jb=b.toNat-1) (hK:K (.bool true)):spY (ah aT) tg tc u x x0 x1 nw K r0 r1 T a b ja jb:=
 ⟨⟨rfl,rfl,rfl,rfl⟩,hr,λp m d hM=>⟨h0,h1,hT _ (aeV hM mB ha hb hja hjb hK)⟩⟩
theorem agd (hr:rdA x u) (h0:0<=x0/\x0<=255) (h1:0<=x1/\x1<=255) (hK:K (.bool true)):∃r0 r1,spW (ah aT) tg tc u x f x0 x1 nw K r0 r1:=by
 rcases Lo h0 with e0|e0|e0<;>rcases Lo h1 with e1|e1|e1
 ·exact⟨0,0,by rw[agl];exact eb hr e0 e1 (λX h=>⟨by decide,h⟩) (by decide) (by decide) (by decide) rfl rfl hK⟩
 ·exact⟨0,1,by rw[aiZ];exact eb hr e0 e1 (λX h=>h) (by decide) (by decide) (by decide) rfl rfl hK⟩
 ·exact⟨0,2,by rw[ai0];exact eb hr e0 e1 (λX h=>h) (by decide) (by decide) (by decide) rfl rfl hK⟩
 ·exact⟨1,0,by rw[ai1];exact eb hr e0 e1 (λX h=>h) (by decide) (by decide) (by decide) rfl rfl hK⟩
 ·exact⟨1,1,by rw[ai2];exact eb hr e0 e1 (λX h=>⟨by decide,h⟩) (by decide) (by decide) (by decide) rfl rfl hK⟩
 ·exact⟨1,2,by rw[ai3];exact eb hr e0 e1 (λX h=>h) (by decide) (by decide) (by decide) rfl rfl hK⟩
 ·exact⟨2,0,by rw[ai4];exact eb hr e0 e1 (λX h=>h) (by decide) (by decide) (by decide) rfl rfl hK⟩
 ·exact⟨2,1,by rw[akj];exact eb hr e0 e1 (λX h=>h) (by decide) (by decide) (by decide) rfl rfl hK⟩
 ·exact⟨2,2,by rw[akk];exact eb hr e0 e1 (λX h=>⟨by decide,h⟩) (by decide) (by decide) (by decide) rfl rfl hK⟩
end
theorem agf {W:World} {tg tc:TypeId} (hG:W.heap[1]?=some (.cells (ak .u32 64 aX) tg (0,0))) (hC:W.heap[0]?=some (.cells #[.bool false,.bool false,.bool false,.bool false,.bool false,.bool false,.bool false,.bool false,.bool false,.bool false,.bool true,.bool true] tc (0,0)))
 (q:Nat->Int) (ka:Nat->Option Addr) (kn kc:Nat->Nat) (hr:∀j,j<4->gF W (ka j) (kn j) (kc j) (ft W (ka j))) {x0 x1:Int} (h0:0<=x0/\x0<=255) (h1:0<=x1/\x1<=255) (nw:Bool):
 aj prog 6 #[.agg (uE ⟨q,λ_=>(0,λ_=>0)⟩ ka kn kc).toArray,.agg #[.int .u8 x0,.int .u8 x1],.bool nw] W λv w1=>v=.bool true/\Ch [] W w1:=by
 have S:=aaZ hG hC;obtain⟨r0,r1,fU⟩:=agd (tg:=tg) (tc:=tc) (u:=W) (x:=⟨q,ka,kn,kc⟩) (f:=λ_=>(0,λ_=>0)) (nw:=nw) (K:=λv=>v=.bool true) ⟨hr 0 (by decide),hr 1 (by decide),hr 2 (by decide),hr 3 (by decide)⟩ h0 h1 rfl;have a9:(ao [1,0] [.agg [.j8 ⟨q,λ_=>(0,λ_=>0)⟩ ka kn kc],.agg [.int .u8 x0,.int .u8 x1],.bool nw]).toArray=#[.agg (uE ⟨q,λ_=>(0,λ_=>0)⟩ ka kn kc).toArray,.agg #[.int .u8 x0,.int .u8 x1],.bool nw]:=by
  simp only[ao,den,ab,cl,List.append_nil];rfl
 rw[<-a9];refine(bw (C:=yr prog gS (LSp (ah aT)) (hkB (gSp r0 r1)) Vu λ_ _=>none) VC.T VC.Q 60 agh rfl S fU).mono ?_;rintro v w' ⟨x,more,bl',ch',rfl,h1,S',rfl⟩;exact⟨rfl,S'.ch⟩
end Go.Proofs.YtggfpcggakghnaaGreatDoor
namespace Go.Proofs.YtggfpcggakghnaaGreatDoor.coreSpent
open Go.ChangeShapes Go.WideShapes Go.ChangeAt Go.RowKit Go.Joins Sd Sx
theorem opened (H:Type) (enc:TypeId×Value->H) (W:World) (args:Array Value) (ds gs:List (DataW H)) (before:List MemPlace)
 (OA:∀(j:Nat) t v,Tryz.f6.params[j]?=some t->args[j]?=some v->Value.okWide prog W .any 0 t v)
 (hW:DataW.Whole enc prog Tryz.f6.params.toList Rows.coreSpentSpec.vars false W args.toList ds gs before) (hL:laidMetH prog Ut W):
 Rows.coreSpentSpec.fn H (ds++gs)={results:=[.lit (.bool true)],args:=ds,vars:=[]}/\Calls prog 6 args W λe W'=>e=.returned (.bool true)/\Below W.heap.size W W':=by
 obtain⟨p,q,hA,hV,rfl,xy,VP⟩:=hW;obtain⟨tG,hG⟩:=Uu hL;obtain⟨tC,hC⟩:=Z9 hL;rw[Tryz.params6]at hA OA;obtain⟨v0,v1,v2,d0,d1,d2,p0,p1,p2,a9,rfl,ht⟩:=trodAll_three hA;have ht0:=ht.2.1;obtain rfl:args=#[v0,v1,v2]:=by cases args;simp_all
 obtain⟨rfl,rfl⟩:=trodVars_none hV;obtain⟨pq,ka,kn,kc,rfl,hk⟩:=N0 (OA 0 28 v0 rfl rfl) (λn=>by obtain⟨fuel,h⟩:=ht0;exact Sx.mj n h);obtain⟨x0,x1,rfl,h0,h1⟩:=aeQ (OA 1 29 v1 rfl rfl);obtain⟨nw,rfl⟩:=N2 Tryz.underlying4 (EZ Tryz.underlying4 rfl (OA 2 4 v2 rfl rfl));exact⟨rfl,Sx.Lu (agf hG hC pq ka kn kc hk h0 h1 nw)⟩
theorem own:ownKnob prog.godebug=none:=by kernel_rfl
def Lr:List (String×DataW Unit):=[("sidestick/gate.commands",Rows.laid_sidestick_gate_commands),("sidestick/sha.roots",Rows.laid_sidestick_sha_roots)]
theorem VD (os:Os) (args:Array Value):laidMetH prog Lr ((World.doorLaid prog 400 os).forCall (λ_ _=>0) ⟨#[],args,[]⟩).memory:=
 laidMetH_of_parts3 (fuel:=8) (laidMet_of_run' 8 (by kernel_rfl) (by kernel_rfl)) (by kernel_rfl) (by kernel_rfl)
theorem lifted (os:Os) (started:os.Started) (H:Type) (enc:TypeId×Value->H):
 ReturnsInHanded {} Tryz.checked os 6 .any (λw args=>(Rows.coreSpentSpec.pre enc prog Tryz.f6 [] false w args/\laidMetH prog Lr w)/\sizedMet enc prog Tryz.f6 (OpenSpec.ofChange Rows.coreSpentSpec) false w args)
  (Rows.coreSpentSpec.post enc prog Tryz.f6 false true false false):=by
 refine returnsInHanded_of_change_and (C:=Tryz.checked) (X:=λw _=>laidMetH prog Lr w) (λ_ _ _ hh h=>h.of_heap hh) own started (by kernel_rfl) Tryz.func6
  (ChangeSpec.witness_shaped (enc:=enc) (C:=Tryz.checked) (os:=os) (X:=λw _=>laidMetH prog Lr w) false (World.doorLaid prog 400 os) #[.agg #[.int .i64 0,.int .i64 0,.int .i64 0,.int .i64 0,.int .i64 0,.slice none 0 0,.slice none 0 0,.slice none 0 0,.slice none 0 0,.int .i64 0,.int .i64 0,.int .i64 0,.int .i64 0,.int .i64 0,.int .i64 0,.int .i64 0,.int .i64 0,.int .i64 0,.int .i64 0,.int .i64 0,.int .i64 0,.int .i64 0,.int .i64 0,.int .i64 0,.int .i64 0,.int .i64 0,.int .i64 0,.int .i64 0,.int .i64 0,.int .i64 0,.int .i64 0,.int .i64 0,.int .i64 0,.int .i64 0,.int .i64 0,.int .i64 0,.int .i64 0,.int .i64 0,.int .i64 0,.int .i64 0,.int .i64 0,.int .i64 0,.int .i64 0,.int .i64 0,.int .i64 0,.int .i64 0,.int .i64 0,.int .i64 0,.int .i64 0,.int .i64 0,.int .i64 0,.int .i64 0,.int .i64 0,.int .i64 0,.int .i64 0,.int .i64 0],.agg #[.int .u8 0,.int .u8 0],.bool false] 8 rfl (World.shaped_of_RefB (by kernel_rfl) (by kernel_rfl)) (by kernel_rfl) (by kernel_rfl) (by kernel_rfl) (VD os _)) ?_
 intro W base args ds gs before OA hW _ _ hL _;obtain⟨hs,hc⟩:=opened H enc W args ds gs before OA hW hL;refine hc.mono λe W' ⟨he,hb⟩=>⟨_,he,?_⟩;exact Uv (by kernel_rfl) (by kernel_rfl) rfl (by kernel_rfl) Tryz.underlying4 hs hW hb
end Go.Proofs.YtggfpcggakghnaaGreatDoor.coreSpent
namespace Go.Proofs.YtggfpcggakghnaaGreatDoor.coreSpent
theorem closed:joinedFacts Tryz.pinned.checked.prog 6 Tryz.f6 Rows.coreSpentSpec Rows.coreSpentRow=true:=by kernel_rfl
open Go.ChangeShapes Go.WideShapes Go.ChangeAt Go.RowKit Go.Joins Sd Sx
theorem said:Rows.CoreSpentSaid:=
 OpenClaim.holds_of_wide 6 Tryz.f6 rfl rfl rfl rfl rfl rfl rfl ⟨rfl,rfl,rfl,rfl,rfl⟩ rfl rfl rfl rfl rfl (by kernel_rfl) Tryz.func6 closed
  (of_decide_eq_true (by kernel_rfl)) (by unfold Func.isWrapper;first|(rw[if_pos (by decide+kernel)];kernel_rfl)|(rw[if_neg (by decide+kernel)];exact⟨rfl,rfl⟩))
  (λos started H enc _=>lifted os started H enc)
theorem proved:Rows.CoreSpentCardSaid:=
 Claim7.holds_tied_plain_at .later [] [.data,.data] true Rows.coreSpentCard.stood.harness true
  said (λ_ h=>by cases h) (by kernel_rfl) (λ_ h=>by cases h) coreSpent_row_tie rfl ⟨rfl,rfl⟩ (by kernel_rfl) rfl
  (λf fn hf hfn=>by
   obtain rfl:f=6:=Option.some.inj ((show prog.funcNamed "sidestick/sidesticklaw24.CoreSpent" =some 6 by kernel_rfl).symm.trans hf)|>.symm;obtain rfl:fn=Tryz.f6:=(Option.some.inj (Tryz.func6.symm.trans hfn)).symm;exact⟨by kernel_rfl,λj t ht=>by
    have di:(Tryz.f6.params.toList.all λu=>!prog.wantsStandIn u)=true:=by kernel_rfl
    have hm:t∈Tryz.f6.params.toList:=by simpa using Array.mem_of_getElem? ht
    exact(show prog.wantsStandIn t=false by simpa using List.all_eq_true.1 di t hm)⟩)
  (by kernel_rfl)
end Go.Proofs.YtggfpcggakghnaaGreatDoor.coreSpent
