/- CoreHands: whichever policy that may be, links, mode and number, the law returns true. Every input; no condition. -/
import Derived.Test.YtggfpcggakghnaaGreatDoorCards
import Derived.Test.YtggfpcggakghnaaGreatDoorTie
import Derived.Lib.SmallJoins
import Derived.SevenTiedAt
import Derived.LaidMore
import Derived.Stop.Joined
import Derived.Test.YtggfpcggakghnaaGreatDoorRows
import Derived.ProofKit
import Derived.Test.YtggfpcggakghnaaGreatDoorQ28
import Derived.Test.YtggfpcggakghnaaGreatDoorQ29
import Derived.Test.YtggfpcggakghnaaGreatDoorQ30
set_option linter.all false
set_option maxRecDepth 100000
set_option maxHeartbeats 4000000
open Go.Proofs.Tryz
open Go.IntKind (u8 u16 u32 u64 i64)
namespace Go.Proofs.YtggfpcggakghnaaGreatDoor
open Go Go.RowKit Go.BigFrame Sx Vx
theorem Zx {s:Sd.Scene} {c:Sd.Core} {l:List (Int×Sd.Reply)} (h:s.at_ c l):s.c.t=c.t/\s.c.q=c.q/\s.c.mode=c.mode/\s.c.bj=c.bj/\s.c.tab=c.tab/\s.c.p=c.p/\s.c.pt=c.pt:=by
 obtain⟨⟨x,e⟩,_⟩:=h;rw[e];exact⟨rfl,rfl,rfl,rfl,rfl,rfl,rfl⟩
theorem yy {s:Sd.Scene} {c:Sd.Core} {l:List (Int×Sd.Reply)} (h:s.at_ c l):(fS s).at_ c []:=⟨h.1,rfl⟩
section
variable{tg tc:TypeId} {it:Nat} {k:LK} {s:Sd.Scene} {F:bN eB (bA k s)} {l r:Int} {c:Sd.Core}
theorem Lm {n cc:Nat} {f:Sd.Byt} {X:(s':Sd.Scene)->Sd.Byt->Sd.Reply->bN eB (bA k s')->List av->Prop} (hB:Fu tg tc k s F) (ba:s.at_ c []) (hA:Sd.yW c.p) (hl:1<=l/\l<=3) (hr:1<=r/\r<=3) (hk:c.p.k (l.toNat-1)=(n,f)) (hn:1<=n/\n<=64) (hc:n<=cc) (hd:(c.doors (l.toNat-1)).many<4294967295) (hs:c.tab.cZ l=true\/c.tab.many<c.p.aR)
 (hX:∀(s':Sd.Scene) (key:Sd.Byt) (F':bN eB (bA k s')) (vI:List av),Fu tg tc k s' F'->s'.at_ (Sd.gC (ah aT) c l r) []->key=(ah aT).key (c.p.k (l.toNat-1)) l r (Sd.uV (ah aT) c l)->X s' key {kind:=130,role:=r,fT:=c.t.holder,epoch:=c.t.epoch} F' vI):
 Oz (ah aT) tg tc it k s F n cc f l r X:=by
 have ht:=hA.fm hl hr;have J_:0<=r/\r<=3:=by omega
 refine Vw hB hc hn hl J_ (aaJ ba J_ hl ht hd) λs' key rep e F' vI B=>?_;obtain⟨s1,E,a1⟩:=aaK (n:=n) (f:=f) ba J_ hl hk ht hd hs;rw[E]at e;simp only[Prod.mk.injEq]at e;obtain⟨rfl,rfl,rfl⟩:=e;exact hX _ _ F' vI B a1 (by rw[hk];rfl)
theorem jG {key:Sd.Byt} {m:Sd.bW} {role hi:Int} {X:(s':Sd.Scene)->TR->List av->bN eB (bA k (fS s'))->Prop} (hB:Fu tg tc k s F) (ba:s.at_ c []) (hS:Sd.FA c l key role hi) (hm:lx m) (hn:hi<m.seq)
 (hX:∀(s':Sd.Scene) (r:TR) (fn:List av) (F0:bN eB (bA k (fS s'))),Fu tg tc k (fS s') F0->s'.at_ (Sd.eJ (ah aT) c l m).1 (Sd.eJ (ah aT) c l m).2->mg eB s'.sent r.fv fn->(∀y∈s'.sent,Sd.kr y)/\s'.sent.length<=10->X s' r fn F0):Ct (ah aT) tg tc it k s F key l m X:=by
 refine Vy hB hS.lk hm λs' e r fn F0 B hf hs=>hX s' r fn F0 B ?_ hf hs;have:=af5 ba hS hm hn;rw[<-e]at this;unfold Sd.Scene.res at this
 rwa [List.nil_append]at this
end
theorem aaW {t:Sd.Tab} {l:Int} (hl:1<=l/\l<=3) (h:t.cZ l=false):t.many<3:=by
 rw[Sd.IK t (t.cZ 1) (t.cZ 2) (t.cZ 3) rfl rfl rfl];rcases(by omega:l=1\/l=2\/l=3)with rfl|rfl|rfl<;>rw[h]<;>split<;>(try split)<;>(try split)<;>simp_all
theorem aaX {C:Sd.Crypt} {c:Sd.Core} {a b r:Int} (ha:1<=a/\a<=3) (hb:1<=b/\b<=3) (h:a≠b):(Sd.gC C c a r).doors (b.toNat-1)=c.doors (b.toNat-1):=by
 show(if b.toNat-1=a.toNat-1 then _ else _)=_;rw[if_neg (by omega)]
theorem Ln {x:ij} {p:Nat->Int} {m:Nat->Nat} (hM:Made x p m):AQ p (ub p):=by
 have bT:∀{a b:Nat},a<=b->Nat.ble a b=true:=λh=>Nat.ble_eq_true_of_le h;have bF:∀{a b:Nat},b<a->Nat.ble a b=false:=λ{a b} h=>by cases hb:Nat.ble a b with|false=>rfl|true=>exact absurd (Nat.le_of_ble_eq_true hb) (by omega)
 have qF:∀{a b:Nat},a≠b->Nat.beq a b=false:=λ{a b} h=>by cases hb:Nat.beq a b with|false=>rfl|true=>exact absurd (Nat.eq_of_beq_eq_true hb) h
 have h55:p 55=bits .and .i64 (x.q 55) 65535:=hM.I.lo 55 (by decide);have b55:=Uo (x.q 55);refine⟨λi hi=>?_,⟨rfl,rfl⟩,λi hi=>?_,λi hi=>?_,λi hi=>?_,λi hi=>?_,λi h1 h2=>?_,rfl,λi h1 h2=>?_,λi hi=>?_,?_⟩
 ·unfold ub;rw[bT (by omega:i<=13),qF (show i≠9 by omega),qF (show i≠13 by omega),bF (show i<10 by omega)];rfl
 ·unfold ub;rw[bT (by omega:i<=13),qF (show i≠9 by omega),qF (show i≠13 by omega),bT hi.1];rfl
 ·unfold ub;rw[bF (show 13<i by omega),bT hi.2];rfl
 ·unfold ub;rw[bF (show 13<i by omega),bF (show 33<i by omega),bT hi.2];rfl
 ·unfold ub;rw[bF (show 13<i by omega),bF (show 33<i by omega),bF (show 38<i by omega),qF (show i≠42 by omega),qF (show i≠44 by omega),qF (show i≠45 by omega),qF (show i≠48 by omega),qF (show i≠49 by omega),qF (show i≠55 by omega)];rfl
 ·have ht:=hM.I.ti;rcases(by omega:i=42\/i=43\/i=44\/i=45\/i=46)with rfl|rfl|rfl|rfl|rfl
  ·show 1<=(900:Int)/\(900:Int)<=1000;decide
  ·exact ht 43 (by decide) (by decide)
  ·show 1<=(900:Int)/\(900:Int)<=1000;decide
  ·show 1<=(900:Int)/\(900:Int)<=1000;decide
  ·exact ht 46 (by decide) (by decide)
 ·rcases(by omega:i=48\/i=49)with rfl|rfl<;>(show 1<=(3:Int)/\(3:Int)<=3;decide)
 ·unfold ub;rw[bF (show 13<i by omega),bF (show 33<i by omega),bF (show 38<i by omega),qF (show i≠42 by omega),qF (show i≠44 by omega),qF (show i≠45 by omega),qF (show i≠48 by omega),qF (show i≠49 by omega),qF (show i≠55 by omega)];rfl
 ·show 0<=(p 55).tmod 60000/\(p 55).tmod 60000<=65535;rw[Int.tmod_eq_emod_of_nonneg (by omega)];omega
theorem agf {x:ij} {p:Nat->Int} {m:Nat->Nat} (hM:Made x p m):0<=ub p 55/\ub p 55<60000:=by
 have h55:p 55=bits .and .i64 (x.q 55) 65535:=hM.I.lo 55 (by decide);have b55:=Uo (x.q 55);show 0<=(p 55).tmod 60000/\(p 55).tmod 60000<60000;rw[Int.tmod_eq_emod_of_nonneg (by omega)];omega
theorem aaY {p:Nat->Int} {q:Nat->Int} {p2:Sd.Pol} (h:AQ p q) (hi:∀i,i<56->iZ i=false->p2.i i=q i):Sd.yW p2 where
 vX i uD:=by rw[hi i (by omega) (j5 (by omega))];exact h.Zw i uD
 table i uD:=by rw[hi i (by omega) (j5 (by omega))];exact h.tab i uD
 graph i uD:=by rw[hi i (by omega) (j5 (by omega))];exact h.gr i uD
theorem VA {tg tc:TypeId} {it:Nat} {k:LK} {p2:Sd.Pol} {F:bN eB (bA k (ib p2))} {a b ra rb:Int} {ja jb ca cb:Nat} {m:Nat->Nat} {f:Nat->Sd.Byt} {X:(s1:Sd.Scene)->Sd.Byt->Sd.Reply->(s2:Sd.Scene)->Sd.Byt->Sd.Reply->bN eB (bA k s2)->List av->Prop} (hB:Fu tg tc k (ib p2) F) (hA:Sd.yW p2) (h3:p2.aR=3) (ha:1<=a/\a<=3) (hb:1<=b/\b<=3) (mB:a≠b) (hja:ja=a.toNat-1) (hjb:jb=b.toNat-1) (hra:1<=ra/\ra<=3) (hrb:1<=rb/\rb<=3)
 (hk:∀j,j<4->p2.k j=(m j,f j)) (hm:∀j,j<4->1<=m j/\m j<=64) (hca:m ja<=ca) (hcb:m jb<=cb)
 (hX:∀(s1:Sd.Scene) (one:Sd.Byt) (r1:Sd.Reply) (s2:Sd.Scene) (two:Sd.Byt) (r2:Sd.Reply) (F2:bN eB (bA k s2)) (Wa:List av) (c:Sd.Core),Fu tg tc k s2 F2->s2.at_ c []->Sd.HS p2 a b one two ra rb c 0 0 (Sd.Core.new p2).t p2.start ⟨2,4,0⟩ []->Sd.Still c.tab p2.bh 0->X s1 one r1 s2 two r2 F2 Wa):
 Oz (ah aT) tg tc it k (ib p2) F (m ja) ca (f ja) a ra λs1 one r1 F1 fB1=>Oz (ah aT) tg tc it k s1 F1 (m jb) cb (f jb) b rb λs2 two r2 F2 Wa=>X s1 one r1 s2 two r2 F2 Wa:=by
 have aaD:(ib p2).at_ (Sd.Core.new p2) []:=⟨⟨_,rfl⟩,rfl⟩;have hbe:=hB.c.i.p.bh;have anP:1<=p2.bh/\p2.bh<=1000:=hbe;refine Lm hB aaD hA ha hra (by rw[<-hja];exact hk ja (by omega)) (hm ja (by omega)) hca (by show(0:Int)<4294967295;decide) (.inr (by show Sd.Tab.new.many<p2.aR;rw[h3];decide)) λs1 one F1 fB1 B1 at1 e1=>?_;have off:(Sd.gC (ah aT) (Sd.Core.new p2) a ra).tab.cZ b=false:=Sd.U5 ha hb mB (by rw[Sd.jD hb];rfl);refine Lm B1 at1 hA hb hrb (by rw[<-hjb];exact hk jb (by omega)) (hm jb (by omega)) hcb (by rw[aaX ha hb mB];show(0:Int)<4294967295;decide) (.inr (by show(Sd.gC (ah aT) (Sd.Core.new p2) a ra).tab.many<p2.aR;rw[h3];exact aaW hb off)) λs2 two F2 Wa B2 at2 e2=>?_;have S0:Sd.Still (Sd.Core.new p2).tab p2.bh 0:=Sd.Ol _;have S1:=Sd.uB (C:=ah aT) (k:=a) (r:=ra) (m:=p2.bh) (by omega) rfl S0;have S2:=Sd.uB (C:=ah aT) (c:=Sd.gC (ah aT) (Sd.Core.new p2) a ra) (k:=b) (r:=rb) (m:=p2.bh) (by omega) rfl S1;refine hX s1 one _ s2 two _ F2 Wa _ B2 at2 ⟨rfl,Sd.U4 ?_ hb mB.symm,?_,rfl,rfl,rfl,rfl⟩ S2
 ·rw[e1];exact Sd.zY ha
 ·rw[e2];exact Sd.zY hb
theorem aaZ {W:World} {tg tc:TypeId} (hG:W.heap[1]?=some (.cells (ak .u32 64 aX) tg (0,0))) (hC:W.heap[0]?=some (.cells #[.bool false,.bool false,.bool false,.bool false,.bool false,.bool false,.bool false,.bool false,.bool false,.bool false,.bool true,.bool true] tc (0,0))):
 St [] W (lits [1,0] [1,0] [gi tg,sf tc]++af [LG.cn (fr:=eB) W] []) W:=by
 refine St.K2 ?_;intro y hy;rcases List.mem_append.1 hy with hy|hy
 ·simp only[lits,List.mem_cons,List.not_mem_nil,or_false]at hy;rcases hy with rfl|rfl
  ·exact⟨rfl,hG.trans (by kernel_rfl)⟩
  ·exact⟨rfl,hC.trans (by kernel_rfl)⟩
 ·have:y∈du W:=by
   rcases List.mem_append.1 (show y∈du W++[]from hy)with h|h
   ·exact h
   ·cases h
  exact afG W y this
theorem agh:Gl gS [1,0]:=by
 intro g j hg;unfold gS at hg;split at hg
 ·obtain rfl:=Option.some.inj hg;exact⟨by simp,rfl⟩
 ·obtain rfl:=Option.some.inj hg;exact⟨by simp,rfl⟩
 ·cases hg
theorem Lo {x:Int} (h:0<=x/\x<=255):(i64.wrap x).tmod 3=Int.ofNat 0\/(i64.wrap x).tmod 3=Int.ofNat 1\/(i64.wrap x).tmod 3=Int.ofNat 2:=by
 rw[fG (by omega),Int.tmod_eq_emod_of_nonneg h.1];simp only[Int.ofNat_eq_natCast];omega
theorem Lq {r:Sd.Reply} {l:List Sd.Reply} {X:Prop} (h:X):h0P (r::l) X:=⟨⟨Int.le_refl _,by show(0:Int)<((l.length+1:Nat):Int);omega⟩,⟨by show 0<l.length+1;omega,λj=>rfl⟩,h⟩
theorem aa0 {a:Int} (r s:Sd.Reply):Sd.aQ [(a,r),(a,s)] a=[r,s]:=by simp[Sd.aQ]
theorem aa1 {a b:Int} (h:a≠b) (r s:Sd.Reply):Sd.aQ [(b,r),(a,s)] b=[r]:=by simp[Sd.aQ,h]
theorem aa2 {a b:Int} (h:a≠b) (r s:Sd.Reply):Sd.aQ [(b,r),(a,s)] a=[s]:=by simp[Sd.aQ,h.symm]
theorem IY {a:Int} (r:Sd.Reply):Sd.aQ [(a,r)] a=[r]:=Sd.yj a r
theorem amV {s:Int} {b:Bool} (h:0<=s/\s<=4294967295):lx {Sd.aD 5 with seq:=s,now:=b}:=⟨h,.inr (.inl ⟨rfl,rfl⟩)⟩
theorem amW {s t:Int} (h:0<=s/\s<=4294967295) (ht:0<=t/\t<=4):lx {Sd.aD 6 with seq:=s,bx:=t}:=⟨h,.inr (.inr (.inl ⟨rfl,ht,rfl⟩))⟩
theorem amX {s e:Int} (h:0<=s/\s<=4294967295) (he:0<=e/\e<=65535):lx {Sd.aD 7 with seq:=s,epoch:=e}:=⟨h,.inr (.inr (.inr (.inl ⟨rfl,he,rfl⟩)))⟩
theorem VC {s e m:Int} (h:0<=s/\s<=4294967295) (he:0<=e/\e<=65535) (hm:0<=m/\m<=4):lx {Sd.aD 10 with seq:=s,epoch:=e,mode:=m}:=⟨h,.inr (.inr (.inr (.inr ⟨rfl,he,hm,rfl⟩)))⟩
section
variable{tg tc:TypeId} {u:World} {x:ij} {x0 x1 x2 sq:Int} {K:V->Prop} {p:Nat->Int} {m d:Nat->Nat}
theorem agi {a b mode n:Int} {k:LK} {one two:Sd.Byt} {s3 s5:Sd.Scene} {F5:bN eB (bA k (fS s5))} {p2:Sd.Pol} {c5:Sd.Core} {t5:Sd.Tok} {mo:Int} (hB:Fu tg tc k (fS s5) F5) (ba:(fS s5).at_ c5 []) (hA:Sd.yW p2) (mB:a≠b) (ha:1<=a/\a<=3) (hb:1<=b/\b<=3)
 (H:Sd.HS p2 b a two one 2 1 c5 1 2 t5 mo ⟨2,4,0⟩ []) (ht:s5.c.t=t5) (hmb:s5.c.bj=⟨2,4,0⟩) (hh:t5.holder=b) (he:0<=t5.epoch/\t5.epoch<=65535) (he3:0<=s3.c.t.epoch/\s3.c.t.epoch<=65535) (e_:s3.c.t.epoch≠t5.epoch) (hmo:0<=mo/\mo<=4) (hm:0<=mode/\mode<=4) (hn:4<=n/\n<=4294967295) (hK:K (.bool true)):
 hdC (ah aT) tg tc K a b mode n k one two s3 s5 F5:=by
 unfold hdC;refine jG hB ba H.sb (VC (by decide) (by rw[ht];exact he) hm) (by show(2:Int)<3;decide) λs6 r6 fn6 F6 B6 at6 hf6 hs6=>?_;obtain⟨H6,L6⟩:=Sd.K9 (C:=ah aT) (m:={Sd.aD 10 with seq:=3,epoch:=s5.c.t.epoch,mode:=mode}) iI H.swap mB (by show(2:Int)<3/\(0:Int)<=3/\(3:Int)<=4294967295;decide) (e:=20) ((Sd.IH (C:=ah aT) (c:=c5) (k:=a) rfl).trans (Sd.Ff rfl (by show a≠c5.t.holder;rw[H.t,hh];exact mB)));rw[L6]at at6;generalize (Sd.eJ (ah aT) c5 a {Sd.aD 10 with seq:=3,epoch:=s5.c.t.epoch,mode:=mode}).1=c6 at at6 H6;refine jG B6 (yy at6) H6.sb (VC (by decide) he3 hm) (by show(1:Int)<3;decide) λs7 r7 fn7 F7 B7 at7 hf7 hs7=>?_;obtain⟨H7,L7⟩:=Sd.K9 (C:=ah aT) (m:={Sd.aD 10 with seq:=3,epoch:=s3.c.t.epoch,mode:=mode}) iI H6.swap mB.symm (by show(1:Int)<3/\(0:Int)<=3/\(3:Int)<=4294967295;decide) (e:=21) ((Sd.IH (C:=ah aT) (c:=c6) (k:=b) rfl).trans (Sd.IG rfl (by show b=c6.t.holder;rw[H6.t,hh]) (by show s3.c.t.epoch≠c6.t.epoch;rw[H6.t];exact e_)));rw[L7]at at7;generalize (Sd.eJ (ah aT) c6 b {Sd.aD 10 with seq:=3,epoch:=s3.c.t.epoch,mode:=mode}).1=c7 at at7 H7;have q6:rp s6 a={kind:=132,seq:=3,code:=20}:=by unfold rp;rw[at6.2,IY];rfl
 have q7:rp s7 b={kind:=132,seq:=3,code:=21}:=by unfold rp;rw[at7.2,IY];rfl
 rw[q6,q7];refine CB rfl (CB rfl (CB rfl (CB rfl (yw B7 (CB ?_ ?_)))))
 ·rw[(Zx at7).2.2.2.1,H7.mb,hmb];decide
 refine jG B7 (yy at7) H7.sa (VC (by omega) (by rw[ht];exact he) hm) (by show(3:Int)<n;omega) λs8 r8 fn8 F8 B8 at8 hf8 hs8=>?_;obtain⟨H8,L8⟩:=Sd.aaA (C:=ah aT) (m:={Sd.aD 10 with seq:=n,epoch:=s5.c.t.epoch,mode:=mode}) iI H7 mB.symm rfl (by show(3:Int)<n/\0<=n/\n<=4294967295;omega) hh (by show s5.c.t.epoch=t5.epoch;rw[ht]) (hA.may hmo (by decide)) (hA.goes hmo hm);rw[L8]at at8;have q8:rp s8 b={kind:=131,seq:=n}:=by unfold rp;rw[at8.2,IY];rfl
 rw[q8];refine czT rfl (czT ?_ ?_)
 ·rw[(Zx at8).2.2.1,H8.m];simp
 ·rw[(Zx at8).2.2.2.1,H8.mb];show K (.bool (UD ⟨1,b,n⟩ ⟨1,b,n⟩));rw[N2];exact hK
theorem agj {a b mode:Int} {ja jb:Nat} (hM:Made x p m) (mB:a≠b) (ha:1<=a/\a<=3) (hb:1<=b/\b<=3) (hja:ja=a.toNat-1) (hjb:jb=b.toNat-1) (hm:0<=mode/\mode<=4) (vF:0<=sq/\sq<=4294967295) (hK:K (.bool true)):hdB (ah aT) tg tc u x sq K (ub p) m d a b ja jb mode:=by
 have hE:=agf hM;unfold hdB;refine Vz hM (Ln hM) λp2 k F hB hi hk hmm=>?_;have hA:=aaY (Ln hM) hi;have e55:p2.epoch=ub p 55:=hi 55 (by decide) rfl;have h3:p2.aR=3:=hi 49 (by decide) rfl;have mK:0<=p2.start/\p2.start<=4:=hB.c.i.p.start;refine VA hB hA h3 ha hb mB hja hjb (by decide) (by decide) hk hmm (Nat.le_add_right _ _) (Nat.le_add_right _ _) λs1 one r1 s2 two r2 F2 Wa c2 B2 at2 H2 _=>?_;refine jG B2 at2 H2.sa (amV (b:=false) (by decide)) (by show(0:Int)<1;decide) λs3 r3 fn3 F3 B3 at3 hf3 hs3=>?_;obtain⟨H3,L3⟩:=Sd.afW (C:=ah aT) (m:={Sd.aD 5 with seq:=1}) iI H2 mB rfl (by show(0:Int)<1/\(0:Int)<=1/\(1:Int)<=4294967295;decide) rfl rfl (by show p2.epoch<65535;omega);rw[L3]at at3;generalize (Sd.eJ (ah aT) c2 a {Sd.aD 5 with seq:=1}).1=c3 at at3 H3;have t3:s3.c.t=(Sd.Core.new p2).t.pass a (p2.epoch+1):=(Zx at3).1.trans H3.t;have e3:s3.c.t.epoch=p2.epoch+1:=by rw[t3];rfl
 refine yw B3 ?_;refine jG B3 (yy at3) H3.sa (amW (by decide) (by omega)) (by show(1:Int)<2;decide) λs4 r4 fn4 F4 B4 at4 hf4 hs4=>?_;obtain⟨H4,L4⟩:=Sd.U3 (C:=ah aT) (m:={Sd.aD 6 with seq:=2,bx:=b}) iI H3 mB rfl (by show(1:Int)<2/\(0:Int)<=2/\(2:Int)<=4294967295;decide) rfl rfl (by show(-1:Int)<0;decide) (by show p2.epoch+1<65535;omega);rw[L4]at at4;generalize (Sd.eJ (ah aT) c3 a {Sd.aD 6 with seq:=2,bx:=b}).1=c4 at at4 H4;refine yx (hf4.app _) hs4 ?_;rw[at4.2,aa1 mB];have q3:rp s3 a={kind:=131,seq:=1}:=by unfold rp;rw[at3.2,aa0];rfl
 have q4:rp s4 a={kind:=131,seq:=2}:=by unfold rp;rw[at4.2,aa2 mB];rfl
 rw[q3,q4,e3];refine CB rfl (CB ?_ (CB ?_ (CB rfl (CB rfl (Lq (CB ?_ (Lq ?_)))))))
 ·rw[t3];show(a !=a)=false;simp
 ·rw[fG (by omega),e55];simp
 ·show(!(Ft {kind:=135,fT:=a,epoch:=p2.epoch+1} {kind:=135,fT:=a,epoch:=p2.epoch+1}))=false;rw[uc];rfl
 show Ct _ _ _ _ _ _ _ two b {Sd.aD 7 with seq:=1,epoch:=p2.epoch+1} _;refine jG B4 (yy at4) H4.sb (amX (by decide) (by omega)) (by show(0:Int)<1;decide) λs5 r5 fn5 F5 B5 L9 hf5 hs5=>?_;obtain⟨H5,L5⟩:=Sd.N_ (C:=ah aT) (m:={Sd.aD 7 with seq:=1,epoch:=p2.epoch+1}) iI H4.swap mB.symm rfl (by show(0:Int)<1/\(0:Int)<=1/\(1:Int)<=4294967295;decide) rfl rfl rfl (by show p2.epoch+1<65535;omega);rw[L5]at L9;generalize (Sd.eJ (ah aT) c4 b {Sd.aD 7 with seq:=1,epoch:=p2.epoch+1}).1=c5 at L9 H5;have t5:=(Zx L9).1.trans H5.t;have e5:s5.c.t.epoch=p2.epoch+1+1:=by rw[t5];rfl
 have h5:s5.c.t.holder=b:=by rw[t5];rfl
 have da:Sd.aQ s5.sent a=[{kind:=134,fT:=b,epoch:=p2.epoch+1+1}]:=by rw[L9.2];simp[Sd.aQ,mB,mB.symm];rfl
 have db:Sd.aQ s5.sent b=[{kind:=133,epoch:=p2.epoch+1+1},{kind:=131,seq:=1}]:=by rw[L9.2];simp[Sd.aQ,mB,mB.symm];rfl
 refine yx (hf5.app _) hs5 (yx (hf5.app _) hs5 (yw B5 ?_));rw[da,db];have q5:rp s5 b={kind:=131,seq:=1}:=by unfold rp;rw[db];rfl
 rw[q5,h5,e5];refine CB rfl (CB (by simp) (CB ?_ (CB rfl (Lq (CB ?_ (CB rfl (Lq (CB ?_ ?_))))))))
 ·rw[fG (by omega)];simp
 ·show(!(Ft {kind:=134,fT:=b,epoch:=p2.epoch+1+1} {kind:=134,fT:=b,epoch:=p2.epoch+1+1}))=false;rw[uc];rfl
 ·show(!(Ft {kind:=133,epoch:=p2.epoch+1+1} {kind:=133,epoch:=p2.epoch+1+1}))=false;rw[uc];rfl
 have hw:i64.wrap sq=sq:=fG (by omega);have fin:∀n:Int,4<=n/\n<=4294967295->hdC (ah aT) tg tc K a b mode n k one two s3 s5 F5:=λn hn=>
  agi B5 (yy L9) hA mB ha hb H5 t5 ((Zx L9).2.2.2.1.trans H5.mb) rfl (by show 0<=p2.epoch+1+1/\p2.epoch+1+1<=65535;omega) (by omega) (by rw[e3];show p2.epoch+1≠p2.epoch+1+1;omega) mK hm hn hK
 rw[hw];exact aU (λ_=>fin 4 (by decide)) (λe=>fin sq (by have:¬sq<4:=by simpa using e
                                                         omega))
end
section
variable{tg tc:TypeId} {u:World} {x:ij} {f:Nat->Nat×Sd.Byt} {x0 x1 x2 sq:Int} {K:V->Prop}
theorem mu {r0 r1:Nat} {T:Prop->Prop} {a b:Int} {ja jb:Nat} (hr:rdA x u) (h0:(i64.wrap x0).tmod 3=Int.ofNat r0) (h1:(i64.wrap x1).tmod 3=Int.ofNat r1) (hT:∀X,X->T X) (mB:a≠b) (ha:1<=a/\a<=3) (hb:1<=b/\b<=3) (hja:ja=a.toNat-1) (hjb:jb=b.toNat-1) (h2:0<=x2/\x2<=255) (vF:0<=sq/\sq<=4294967295) (hK:K (.bool true)):Wc (ah aT) tg tc u x x0 x1 x2 sq K r0 r1 T a b ja jb:=by
 refine⟨⟨rfl,rfl,rfl,rfl⟩,hr,λp m d hM=>⟨h0,h1,hT _ (agj hM mB ha hb hja hjb ?_ vF hK)⟩⟩;rw[fG (by omega),Int.tmod_eq_emod_of_nonneg h2.1];omega
theorem agk (hr:rdA x u) (h0:0<=x0/\x0<=255) (h1:0<=x1/\x1<=255) (h2:0<=x2/\x2<=255) (vF:0<=sq/\sq<=4294967295) (hK:K (.bool true)):∃r0 r1,Wb (ah aT) tg tc u x f x0 x1 x2 sq K r0 r1:=by
 rcases Lo h0 with e0|e0|e0<;>rcases Lo h1 with e1|e1|e1
 ·exact⟨0,0,by rw[akk];exact mu hr e0 e1 (λX h=>⟨by decide,h⟩) (by decide) (by decide) (by decide) rfl rfl h2 vF hK⟩
 ·exact⟨0,1,by rw[akl];exact mu hr e0 e1 (λX h=>h) (by decide) (by decide) (by decide) rfl rfl h2 vF hK⟩
 ·exact⟨0,2,by rw[akm];exact mu hr e0 e1 (λX h=>h) (by decide) (by decide) (by decide) rfl rfl h2 vF hK⟩
 ·exact⟨1,0,by rw[akn];exact mu hr e0 e1 (λX h=>h) (by decide) (by decide) (by decide) rfl rfl h2 vF hK⟩
 ·exact⟨1,1,by rw[ako];exact mu hr e0 e1 (λX h=>⟨by decide,h⟩) (by decide) (by decide) (by decide) rfl rfl h2 vF hK⟩
 ·exact⟨1,2,by rw[akp];exact mu hr e0 e1 (λX h=>h) (by decide) (by decide) (by decide) rfl rfl h2 vF hK⟩
 ·exact⟨2,0,by rw[akq];exact mu hr e0 e1 (λX h=>h) (by decide) (by decide) (by decide) rfl rfl h2 vF hK⟩
 ·exact⟨2,1,by rw[akr];exact mu hr e0 e1 (λX h=>h) (by decide) (by decide) (by decide) rfl rfl h2 vF hK⟩
 ·exact⟨2,2,by rw[aks];exact mu hr e0 e1 (λX h=>⟨by decide,h⟩) (by decide) (by decide) (by decide) rfl rfl h2 vF hK⟩
end
theorem agl {W:World} {tg tc:TypeId} (hG:W.heap[1]?=some (.cells (ak .u32 64 aX) tg (0,0))) (hC:W.heap[0]?=some (.cells #[.bool false,.bool false,.bool false,.bool false,.bool false,.bool false,.bool false,.bool false,.bool false,.bool false,.bool true,.bool true] tc (0,0)))
 (q:Nat->Int) (ka:Nat->Option Addr) (kn kc:Nat->Nat) (hr:∀j,j<4->gF W (ka j) (kn j) (kc j) (ft W (ka j))) {x0 x1 x2 sq:Int} (h0:0<=x0/\x0<=255) (h1:0<=x1/\x1<=255) (h2:0<=x2/\x2<=255) (vF:0<=sq/\sq<=4294967295):
 aj prog 4 #[.agg (uE ⟨q,λ_=>(0,λ_=>0)⟩ ka kn kc).toArray,.agg #[.int .u8 x0,.int .u8 x1,.int .u8 x2],.int .u32 sq] W λv w1=>v=.bool true/\Ch [] W w1:=by
 have S:=aaZ hG hC;obtain⟨r0,r1,fU⟩:=agk (tg:=tg) (tc:=tc) (u:=W) (x:=⟨q,ka,kn,kc⟩) (f:=λ_=>(0,λ_=>0)) (K:=λv=>v=.bool true) ⟨hr 0 (by decide),hr 1 (by decide),hr 2 (by decide),hr 3 (by decide)⟩ h0 h1 h2 vF rfl;have a9:(ao [1,0] [.agg [.j8 ⟨q,λ_=>(0,λ_=>0)⟩ ka kn kc],.agg [.int .u8 x0,.int .u8 x1,.int .u8 x2],.int .u32 sq]).toArray=#[.agg (uE ⟨q,λ_=>(0,λ_=>0)⟩ ka kn kc).toArray,.agg #[.int .u8 x0,.int .u8 x1,.int .u8 x2],.int .u32 sq]:=by
  simp only[ao,den,ab,cl,List.append_nil];rfl
 rw[<-a9];refine(bw (C:=yr prog gS (LBs (ah aT)) (hkB (gHd r0 r1)) Vu λ_ _=>none) xR.T xR.Q 60 agh rfl S fU).mono ?_;rintro v w' ⟨x,more,bl',ch',rfl,h1,S',rfl⟩;exact⟨rfl,S'.ch⟩
end Go.Proofs.YtggfpcggakghnaaGreatDoor
namespace Go.Proofs.YtggfpcggakghnaaGreatDoor.coreHands
open Go.ChangeShapes Go.WideShapes Go.ChangeAt Go.RowKit Go.Joins Sd Sx
theorem opened (H:Type) (enc:TypeId×Value->H) (W:World) (args:Array Value) (ds gs:List (DataW H)) (before:List MemPlace)
 (OA:∀(j:Nat) t v,Tryz.f4.params[j]?=some t->args[j]?=some v->Value.okWide prog W .any 0 t v)
 (hW:DataW.Whole enc prog Tryz.f4.params.toList Rows.coreHandsSpec.vars false W args.toList ds gs before) (hL:laidMetH prog Ut W):
 Rows.coreHandsSpec.fn H (ds++gs)={results:=[.lit (.bool true)],args:=ds,vars:=[]}/\Calls prog 4 args W λe W'=>e=.returned (.bool true)/\Below W.heap.size W W':=by
 obtain⟨p,q,hA,hV,rfl,xy,VP⟩:=hW;obtain⟨tG,hG⟩:=Uu hL;obtain⟨tC,hC⟩:=Z9 hL;rw[Tryz.params4]at hA OA;obtain⟨v0,v1,v2,d0,d1,d2,p0,p1,p2,a9,rfl,ht⟩:=trodAll_three hA;have ht0:=ht.2.1;obtain rfl:args=#[v0,v1,v2]:=by cases args;simp_all
 obtain⟨rfl,rfl⟩:=trodVars_none hV;obtain⟨pq,ka,kn,kc,rfl,hk⟩:=N0 (OA 0 28 v0 rfl rfl) (λn=>by obtain⟨fuel,h⟩:=ht0;exact Sx.mj n h);obtain⟨x0,x1,x2,rfl,h0,h1,h2⟩:=aaa (OA 1 55 v1 rfl rfl);obtain⟨sq,rfl,sE,Wk⟩:=yc Tryz.underlying56 (EZ Tryz.underlying56 rfl (OA 2 56 v2 rfl rfl));have vF:0<=sq/\sq<=4294967295:=by simpa[IntKind.min,IntKind.max,IntKind.signed,IntKind.bits]using And.intro sE Wk
 exact⟨rfl,Sx.Lu (agl hG hC pq ka kn kc hk h0 h1 h2 vF)⟩
theorem own:ownKnob prog.godebug=none:=by kernel_rfl
def Lr:List (String×DataW Unit):=[("sidestick/gate.commands",Rows.laid_sidestick_gate_commands),("sidestick/sha.roots",Rows.laid_sidestick_sha_roots)]
theorem VD (os:Os) (args:Array Value):laidMetH prog Lr ((World.doorLaid prog 400 os).forCall (λ_ _=>0) ⟨#[],args,[]⟩).memory:=
 laidMetH_of_parts3 (fuel:=8) (laidMet_of_run' 8 (by kernel_rfl) (by kernel_rfl)) (by kernel_rfl) (by kernel_rfl)
theorem lifted (os:Os) (started:os.Started) (H:Type) (enc:TypeId×Value->H):
 ReturnsInHanded {} Tryz.checked os 4 .any (λw args=>(Rows.coreHandsSpec.pre enc prog Tryz.f4 [] false w args/\laidMetH prog Lr w)/\sizedMet enc prog Tryz.f4 (OpenSpec.ofChange Rows.coreHandsSpec) false w args)
  (Rows.coreHandsSpec.post enc prog Tryz.f4 false true false false):=by
 refine returnsInHanded_of_change_and (C:=Tryz.checked) (X:=λw _=>laidMetH prog Lr w) (λ_ _ _ hh h=>h.of_heap hh) own started (by kernel_rfl) Tryz.func4
  (ChangeSpec.witness_shaped (enc:=enc) (C:=Tryz.checked) (os:=os) (X:=λw _=>laidMetH prog Lr w) false (World.doorLaid prog 400 os) #[.agg #[.int .i64 0,.int .i64 0,.int .i64 0,.int .i64 0,.int .i64 0,.slice none 0 0,.slice none 0 0,.slice none 0 0,.slice none 0 0,.int .i64 0,.int .i64 0,.int .i64 0,.int .i64 0,.int .i64 0,.int .i64 0,.int .i64 0,.int .i64 0,.int .i64 0,.int .i64 0,.int .i64 0,.int .i64 0,.int .i64 0,.int .i64 0,.int .i64 0,.int .i64 0,.int .i64 0,.int .i64 0,.int .i64 0,.int .i64 0,.int .i64 0,.int .i64 0,.int .i64 0,.int .i64 0,.int .i64 0,.int .i64 0,.int .i64 0,.int .i64 0,.int .i64 0,.int .i64 0,.int .i64 0,.int .i64 0,.int .i64 0,.int .i64 0,.int .i64 0,.int .i64 0,.int .i64 0,.int .i64 0,.int .i64 0,.int .i64 0,.int .i64 0,.int .i64 0,.int .i64 0,.int .i64 0,.int .i64 0,.int .i64 0,.int .i64 0],.agg #[.int .u8 0,.int .u8 0,.int .u8 0],.int .u32 0] 8 rfl (World.shaped_of_RefB (by kernel_rfl) (by kernel_rfl)) (by kernel_rfl) (by kernel_rfl) (by kernel_rfl) (VD os _)) ?_
 intro W base args ds gs before OA hW _ _ hL _;obtain⟨hs,hc⟩:=opened H enc W args ds gs before OA hW hL;refine hc.mono λe W' ⟨he,hb⟩=>⟨_,he,?_⟩;exact Uv (by kernel_rfl) (by kernel_rfl) rfl (by kernel_rfl) Tryz.underlying4 hs hW hb
end Go.Proofs.YtggfpcggakghnaaGreatDoor.coreHands
namespace Go.Proofs.YtggfpcggakghnaaGreatDoor.coreHands
theorem closed:joinedFacts Tryz.pinned.checked.prog 4 Tryz.f4 Rows.coreHandsSpec Rows.coreHandsRow=true:=by kernel_rfl
open Go.ChangeShapes Go.WideShapes Go.ChangeAt Go.RowKit Go.Joins Sd Sx
theorem said:Rows.CoreHandsSaid:=
 OpenClaim.holds_of_wide 4 Tryz.f4 rfl rfl rfl rfl rfl rfl rfl ⟨rfl,rfl,rfl,rfl,rfl⟩ rfl rfl rfl rfl rfl (by kernel_rfl) Tryz.func4 closed
  (of_decide_eq_true (by kernel_rfl)) (by unfold Func.isWrapper;first|(rw[if_pos (by decide+kernel)];kernel_rfl)|(rw[if_neg (by decide+kernel)];exact⟨rfl,rfl⟩))
  (λos started H enc _=>lifted os started H enc)
theorem proved:Rows.CoreHandsCardSaid:=
 Claim7.holds_tied_plain_at .later [] [.data,.data] true Rows.coreHandsCard.stood.harness true
  said (λ_ h=>by cases h) (by kernel_rfl) (λ_ h=>by cases h) coreHands_row_tie rfl ⟨rfl,rfl⟩ (by kernel_rfl) rfl
  (λf fn hf hfn=>by
   obtain rfl:f=4:=Option.some.inj ((show prog.funcNamed "sidestick/sidesticklaw24.CoreHands" =some 4 by kernel_rfl).symm.trans hf)|>.symm;obtain rfl:fn=Tryz.f4:=(Option.some.inj (Tryz.func4.symm.trans hfn)).symm;exact⟨by kernel_rfl,λj t ht=>by
    have di:(Tryz.f4.params.toList.all λu=>!prog.wantsStandIn u)=true:=by kernel_rfl
    have hm:t∈Tryz.f4.params.toList:=by simpa using Array.mem_of_getElem? ht
    exact(show prog.wantsStandIn t=false by simpa using List.all_eq_true.1 di t hm)⟩)
  (by kernel_rfl)
end Go.Proofs.YtggfpcggakghnaaGreatDoor.coreHands
