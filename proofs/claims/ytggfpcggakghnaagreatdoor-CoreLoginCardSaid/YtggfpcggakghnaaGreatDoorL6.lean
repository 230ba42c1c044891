/- CoreLogin: a link that knows its secret is let in, as a role that it may take, and told who holds the token; with another secret it is not. Conditions: none. -/
import Derived.Test.YtggfpcggakghnaaGreatDoorCards
import Derived.Test.YtggfpcggakghnaaGreatDoorTie
import Derived.Lib.SmallJoins
import Derived.SevenTiedAt
import Derived.LaidMore
import Derived.Stop.Joined
import Derived.Test.YtggfpcggakghnaaGreatDoorRows
import Derived.ProofKit
import Derived.Test.YtggfpcggakghnaaGreatDoorL5
set_option linter.all false
set_option maxRecDepth 100000
set_option maxHeartbeats 4000000
noncomputable section
open Go.Proofs.Tryz
open Go.IntKind (u8 u16 u32 u64 i64)
open BitVec renaming toNat_ofInt->A7,ofInt->jq
open Bool renaming and_eq_true->a_
open Go renaming TypeId->aD,Addr->aI,Value->ab,World->ae
open Go.IntKind renaming bits->pJ,signed->pL,wrap->sE
open Go.Proofs.Tryz renaming checked->acG
open Go.Proofs.YtggfpcggakghnaaGreatDoor.Rows renaming laid_sidestick_sha_roots->acE
open Go.Value renaming okWide->wC
open Int renaming ofNat->cU,toNat_natCast->ux
open List renaming append_nil->cI,all_eq_true->fK
open Nat renaming le_add_right->wz
open Option.some renaming inj->ck
open Prod.mk renaming injEq->bd
namespace Go.Proofs.YtggfpcggakghnaaGreatDoor
section
open Go Go.RowKit Go.BigFrame Sx Vx
variable(C:Sd.aN) (P:Uf) (N:Ug) (tg tc:aD) (u:ae) (x:j1) (f:Nat->Nat×Sd.aw) (x0 x1:Int) (oa:Option aI) (on oc:Nat) (K:V->Prop)
theorem asK:Mo C P N tg tc u x f x0 x1 oa on oc K 0=Mp C P N tg tc u x x0 x1 oa on oc K 0 1 2 3 0:=by kernel_rfl
theorem asL:Mo C P N tg tc u x f x0 x1 oa on oc K 1=Mp C P N tg tc u x x0 x1 oa on oc K 1 2 1 3 1:=by kernel_rfl
theorem asM:Mo C P N tg tc u x f x0 x1 oa on oc K 2=Mp C P N tg tc u x x0 x1 oa on oc K 2 3 1 2 2:=by kernel_rfl
end
section
open Go Go.RowKit Go.BigFrame Sx Vx
theorem acn (v:BitVec 8):u8.wrap (v.toNat:Int)=(v.toNat:Int):=by
 have:=v.isLt;unfold sE;simp only[pL,pJ,Bool.false_and,Bool.false_eq_true,if_false];omega
theorem asN {a b:Int} (h:bits .or .u8 a b=0) (ha:0<=a/\a<=255) (hb:0<=b/\b<=255):a=0/\b=0:=by
 have e:bits .or .u8 a b=((jq 8 a|||jq 8 b).toNat:Int):=acn _;rw[e]at h;have h1:jq 8 a|||jq 8 b=0#8:=BitVec.eq_of_toNat_eq (by simpa using h);obtain⟨h2,h3⟩:=BitVec.or_eq_zero_iff.1 h1;have h2:=congrArg BitVec.toNat h2;have h3:=congrArg BitVec.toNat h3;simp only[A7,BitVec.toNat_ofNat]at h2 h3;omega
theorem asO {a b:Int} (h:bits .xor .u8 a b=0) (ha:0<=a/\a<=255) (hb:0<=b/\b<=255):a=b:=by
 have e:bits .xor .u8 a b=((jq 8 a^^^jq 8 b).toNat:Int):=acn _;rw[e]at h;have h1:jq 8 a^^^jq 8 b=0#8:=BitVec.eq_of_toNat_eq (by simpa using h);have h2:=congrArg BitVec.toNat (BitVec.xor_eq_zero_iff.1 h1);simp only[A7]at h2;omega
theorem aco (op:BinOp) (a b:Int):0<=bits op .u8 a b/\bits op .u8 a b<=255:=by
 unfold bits;dsimp only;generalize (BitVec.toNat _)=n;unfold sE;simp only[pL,pJ,Bool.false_and,Bool.false_eq_true,if_false];omega
theorem asP (f g:Nat->Int):∀n,0<=mI f g n/\mI f g n<=255
 |0=>⟨Int.le_refl _,by show(0:Int)<=255;decide⟩
 |n+1=>aco _ _ _
theorem acp {f g:Nat->Int} (hf:By f) (hg:By g):∀n,mI f g n=0->∀j,j<n->f j=g j
 |0,_,j,h=>absurd h (by omega)
 |n+1,h,j,hj=>by
  obtain⟨h1,h2⟩:=asN h (asP f g n) (aco _ _ _);rcases(show j<n\/j=n by omega)with h3|rfl
  ·exact acp hf hg n h1 j h3
  ·exact asO h2 (hf j) (hg j)
theorem asQ {f g:Nat->Int} (h:∀j,j<8->f j=g j):wv f g=true:=by
 unfold wv;rw[h 0 (by omega),h 1 (by omega),h 2 (by omega),h 3 (by omega),h 4 (by omega),h 5 (by omega),h 6 (by omega),h 7 (by omega)];simp
theorem asR {f g:Nat->Int} (h:wv f g=true):∀j,j<8->f j=g j:=by
 unfold wv at h;simp only[a_,beq_iff_eq]at h;intro j hj;rcases(by omega:j=0\/j=1\/j=2\/j=3\/j=4\/j=5\/j=6\/j=7)with rfl|rfl|rfl|rfl|rfl|rfl|rfl|rfl
 ·exact h.1
 ·exact h.2.1
 ·exact h.2.2.1
 ·exact h.2.2.2.1
 ·exact h.2.2.2.2.1
 ·exact h.2.2.2.2.2.1
 ·exact h.2.2.2.2.2.2.1
 ·exact h.2.2.2.2.2.2.2.1
theorem asS {a b pf:Nat->Int} (hp:∀j,j<8->pf j=a j) (ha:By a) (hb:By b):mh 8 pf b=wv a b:=by
 cases h:wv a b with
 |true=>exact abI λj hj=>by rw[hp j hj];exact asR h j hj
 |false=>
  cases h2:mh 8 pf b with
  |false=>rfl
  |true=>
   exfalso;have h3:mI pf b 8=0:=eq_of_beq h2;have h5:∀m,m<=8->mI a b m=mI pf b m:=by
    intro m;induction m with
    |zero=>intro _;rfl
    |succ m ih=>
     intro hm;unfold mI;rw[ih (by omega),hp m (by omega)]
   have h4:=acp ha hb 8 (by rw[h5 8 (by omega)];exact h3);rw[asQ h4]at h;cases h
section
variable{s:Sd.aa} {c:Sd.Core} {l r:Int} {n:Nat} {f:Sd.aw}
theorem asT {kn:Nat} {kf:Sd.aw} {nc:Sd.aw}:oT kn kf l r nc (λj=>nX r (fq n f l r nc) (2+j))=wv (fq n f l r nc) (fq kn kf l r nc):=by
 unfold oT;exact asS (abY r (fq n f l r nc)) (T9 _ _ _ _) (T9 _ _ _ _)
theorem asU (h:s.at_ c []) (hr:0<=r/\r<=3) (hl:1<=l/\l<=3) (ht:Sd.eJ c.p l r=true) (hd:(c.doors (l.toNat-1)).many<4294967295) (hs:c.ag.dt l=true\/c.ag.many<c.p.eS)
 (hw:oT (c.p.k (l.toNat-1)).1 (c.p.k (l.toNat-1)).2 l r (Sd.iW (aO aP) c l) (λj=>nX r (fq n f l r (Sd.iW (aO aP) c l)) (2+j))=true):
 ∃s':Sd.aa,lT (aO aP) s l r n f=(s',gQ n f l r (Sd.iW (aO aP) c l),{kind:=130,role:=r,c_:=c.t.aE,af:=c.t.af})/\s'.at_ (Sd.A1 (aO aP) c l r) []:=by
 obtain⟨s1,h1,e⟩:=T0 (n:=n) (f:=f) h hr hl ht hd;have h2:=Sd.abG (f2:=nX r (fq n f l r (Sd.iW (aO aP) c l))) Hx h1 hl hr ht rfl rfl hw hs;rw[<-HC hl]at h2;rw[e,h2.2,Mk];exact⟨_,rfl,h2.1,rfl⟩
end
theorem asV {tg tc:aD} {u:ae} {x:j1} {p:Nat->Int} {m d:Nat->Nat} {X:(p2:Sd.aJ)->(k:LK)->a9 cL (aY k (ib p2))->Prop} (hM:Made x p m)
 (hX:∀p2 k F,ud tg tc k (ib p2) F->p2=nP (ie 4 p m d) (kM x u)->(∀i,i<56->iF i=false->p2.i i=p i)->(∀j,j<4->p2.k j=(m j,kM x u j))->(∀j,j<4->1<=m j/\m j<=64)->X p2 k F):nwP tg tc u x (ie 4 p m d) m X:=by
 have hb:∀j,j<4->1<=m j/\m j<=64:=λj hj=>by rw[hM.n j];exact aaN _
 obtain⟨h1,h2⟩:=aa4 (m:=4) (d:=d) hM.I hM.o hb;refine⟨⟨h1.code,λj hj=>by
  rw[<-h1.n j hj]
  match j,hj with
  |0,_=>rfl
  |1,_=>rfl
  |2,_=>rfl
  |3,_=>rfl
  |j+4,h=>exact absurd h (by omega),h1.k⟩,λp2 k F hN v1 v2=>?_⟩
 have hC0:ew k (ib p2):=aa5 hN (h2 _) (λj hj=>by rw[Dl _ _ _ _ hj];exact hb j hj);have he:=hN.eq;refine hX p2 k F ⟨hN.tg,hN.tc,hN.most.symm,hN.ln,hC0,v1,v2⟩ he (λi h1 h2=>?_) (λj hj=>?_) hb
 ·rw[he];exact Lx 4 p m d h1 h2
 ·rw[he];show(iG (ie 4 p m d) j,kM x u j)=_;rw[Dl _ _ _ _ hj]
theorem asW {x:j1} {p:Nat->Int} {m d:Nat->Nat} (hM:Made x p m):∀i,10<=i/\i<=12->0<=iN (nth (ie 4 p m d) i)/\iN (nth (ie 4 p m d) i)<65536:=by
 intro i hi;rw[Lx 4 p m d (by omega) (nT (by omega)),hM.p i (by omega) (nT (by omega))];have:mz (p 1) (p 2) (p 3) x.q i=bits .and .i64 (x.q i) 14:=by
  rcases(by omega:i=10\/i=11\/i=12)with rfl|rfl|rfl<;>rfl
 rw[this,ZQ];omega
theorem acq {x1:Int} (h:0<=x1/\x1<=255):0<=jo x1/\jo x1<=3:=by
 unfold jo;rw[qI (by omega),Int.tmod_eq_emod_of_nonneg h.1];omega
theorem asY (on:Nat):uf on=((jd 60 on:Nat):Int):=Vd 60 on
section
variable{tg tc:aD} {u:ae} {x:j1} {x0 x1:Int} {K:V->Prop} {p:Nat->Int} {m d:Nat->Nat} {it:Nat} {k:LK} {s:Sd.aa} {F:a9 cL (aY k s)}
theorem Uk {i:Int} {X:Prop} (h:1<=i/\i<=3) (hX:X):HJ i X:=⟨⟨by omega,by show i<5;omega⟩,by omega,hX⟩
theorem DB {s:Sd.aa} {c:Sd.Core} {L:List (Int×Sd.aF)} (h:s.at_ c L) {l:Int} (hl:1<=l/\l<=3):(dV s.c.ag).on l=c.ag.dt l:=by
 rw[Kj,(atE h).2.2.2.2.1,Sd.ary hl]
theorem Mq {C:Sd.aN} {c:Sd.Core} {l r:Int} (hl:1<=l/\l<=3):(Sd.A1 C c l r).ag.dt l=true:=by
 rw[Sd.Dr hl];show((c.ag.dW (l.toNat-1) _).aj (l.toNat-1)).on=true;unfold Sd.az.dW;simp
theorem TM {C:Sd.aN} {c:Sd.Core} {l r:Int} (hl:1<=l/\l<=3):(Sd.A1 C c l r).ag.role l=r:=by
 have ho:=Mq (C:=C) (c:=c) (r:=r) hl;unfold Sd.az.role;rw[ho];rcases(by omega:l=1\/l=2\/l=3)with rfl|rfl|rfl<;>rfl
theorem asZ {s:Sd.aa} {c:Sd.Core} {L:List (Int×Sd.aF)} (h:s.at_ c L) (l:Int):(dV s.c.ag).role l=c.ag.role l:=by
 rw[Zh,(atE h).2.2.2.2.1]
theorem acr {p2:Sd.aJ} {l i j:Int} {jl:Nat} {c:Sd.Core} (hB:ud tg tc k s F) (aK:s.at_ c []) (hl:1<=l/\l<=3) (hi:1<=i/\i<=3) (hj:1<=j/\j<=3) (AI:l≠i) (dk:l≠j) (AM:jl=l.toNat-1) (h1:0<=x1/\x1<=255) (hp:c.p=p2) (hk:p2.k jl=(m jl,kM x u jl)) (hm:1<=m jl/\m jl<=64) (he:p2.i 55=p 55)
 (ht:Sd.eJ p2 l (jo x1)=true) (hd:(c.doors (l.toNat-1)).many<4294967295) (hs:c.ag.dt l=true\/c.ag.many<c.p.eS) (hT:c.t=(Sd.Core.new p2).t) (oi:c.ag.dt i=false) (oj:c.ag.dt j=false) (hK:K (.bool true)):
 Mm (aO aP) tg tc it k s F (m jl) (m jl+d jl) (kM x u jl) l (jo x1) λs2 k2 b F2 fB2=>HG tg tc it k s2 (lgO x1 K p s2 b l i j):=by
 have hr:=acq h1;refine acb hB (wz _ _) hm.2 hl hr λs2 key b e F2 fB2 B2=>?_;obtain⟨s3,E,a2⟩:=ar9 (n:=m jl) (f:=kM x u jl) aK hr hl (by rw[hp,<-AM];exact hk) (by rw[hp];exact ht) hd hs;rw[E]at e;simp only[bd]at e;obtain⟨rfl,-,rfl⟩:=e;refine Mn B2 ?_;have n1:=DB a2 hi;have n2:=DB a2 hj;rw[Sd.Md hl hi AI oi]at n1;rw[Sd.Md hl hj dk oj]at n2;refine Uk hi (Dy n1 (Uk hj (Dy n2 ?_)));have n3:=DB a2 hl;rw[Mq hl]at n3;have n4:=asZ a2 l;rw[TM hl]at n4;unfold HK;have q1:c.t.aE=4:=by rw[hT];rfl
 have q2:c.t.af=p 55:=by rw[hT];exact he
 exact yz rfl (yz (by simp) (yz (by rw[q1];rfl) (yz (by rw[q2];simp) (Uk hl (yz n3 (yz (by rw[n4];simp) hK))))))
theorem as0 (hB:ud tg tc k s F):1<=s.c.p.eS:=hB.c.i.p.eS.1
theorem Ul {oa:Option aI} {on oc:Nat} {r0:Nat} {l i j:Int} {jl:Nat} (hr:Te x u) (ho:im u oa on oc (da u oa)) (e0:(i64.wrap x0).tmod 3=cU r0) (h1:0<=x1/\x1<=255) (hl:1<=l/\l<=3) (hi:1<=i/\i<=3) (hj:1<=j/\j<=3) (AI:l≠i) (dk:l≠j) (AM:jl=l.toNat-1) (hK:K (.bool true)):
 Mp (aO aP) fq fG tg tc u x x0 x1 oa on oc K r0 l i j jl:=by
 have wo:=acq h1;have as1:jd 60 on<=on:=by unfold jd;omega
 have aum:jd 60 on<=60:=by unfold jd;omega
 have hle:=ho.1;refine⟨⟨rfl,rfl,rfl,rfl⟩,hr,λp m d hM=>⟨e0,asV hM λp2 k F hB hP hpi hk xk=>?_⟩⟩;have DC:jl<4:=by omega
 rw[asY,ux];refine⟨⟨hl,wo,asW hM⟩,⟨by omega,by omega⟩,⟨(ho.cut as1 (by omega)).2,by omega⟩,λe us=>?_⟩;have Dt:(ib p2).at_ (Sd.Core.new p2) []:=⟨⟨_,rfl⟩,rfl⟩;have He:((Sd.Core.new p2).doors (l.toNat-1)).many<4294967295:=by show(0:Int)<4294967295;decide
 have C2:Sd.eJ (nP (ie 4 p m d) AR) l (jo x1)=Sd.eJ p2 l (jo x1):=by rw[hP];rfl
 have DD:∀q:Int,1<=q/\q<=3->(Sd.Core.new p2).ag.dt q=false:=λq hq=>by rw[Sd.Dr hq];rfl
 have h55:p2.i 55=p 55:=hpi 55 (by decide) rfl;rw[C2];refine acb hB (wz _ _) (by omega) hl wo λs1 key a ee F1 fB1 B1=>?_;cases ht:Sd.eJ p2 l (jo x1)with
 |false=>
  obtain⟨s2,E,a1⟩:=asa (n:=jd 60 on) (f:=da u oa) Dt wo hl ht;rw[E]at ee;simp only[bd]at ee;obtain⟨rfl,-,rfl⟩:=ee;have n1:=DB a1 hl;rw[DD l hl]at n1;exact yz rfl (yz rfl (Mn B1 (by rw[n1];exact hK)))
 |true=>
  refine⟨⟨⟨rfl,wz _ _,xk 3 (by decide)⟩,by omega,by decide,tg,rfl⟩,?_⟩;have bT:fG (m 3) (kM x u 3) l 1=Sd.iW (aO aP) (Sd.Core.new p2) l:=by
   show _=(aO aP).au (p2.k 3) l ((0:Int)+1);rw[hk 3 (by decide)];rfl
  have pa:∀{X:(Nat->Int)->Prop} {n c:Nat},n<=c->n<=64->X (fG (m 3) (kM x u 3) l 1)->Uj tg n c l (jo x1) (fG (m 3) (kM x u 3) l 1) X:=λhc hn hX=>⟨_,⟨⟨rfl,hc,hn⟩,by omega,by omega,rfl,ls8 _,tg,rfl⟩,hX⟩;refine pa (wz _ _) (by omega) (pa (wz _ _) (xk jl DC).2 ?_);dsimp only;rw[bT];have Um:=asT (l:=l) (r:=jo x1) (n:=jd 60 on) (f:=da u oa) (kn:=m jl) (kf:=kM x u jl) (nc:=Sd.iW (aO aP) (Sd.Core.new p2) l);have qX:(Sd.Core.new p2).p.k (l.toNat-1)=(m jl,kM x u jl):=by rw[<-AM];exact hk jl DC
  have acs:Sd.az.new.many<p2.eS:=by
   have:1<=p2.eS:=as0 hB;show(0:Int)<_;omega
  generalize wv (fq (jd 60 on) (da u oa) l (jo x1) (Sd.iW (aO aP) (Sd.Core.new p2) l)) (fq (m jl) (kM x u jl) l (jo x1) (Sd.iW (aO aP) (Sd.Core.new p2) l))=lk at Um⊢;cases lk with
  |true=>
   obtain⟨s2,E,a1⟩:=asU (n:=jd 60 on) (f:=da u oa) Dt wo hl ht He (.inr acs) (by rw[qX];exact Um);rw[E]at ee;simp only[bd]at ee;obtain⟨rfl,-,rfl⟩:=ee;have n1:=DB a1 hl;rw[Mq hl]at n1;refine Mn B1 (Dy (by rw[n1];rfl) (Dy rfl ?_));refine acr B1 a1 hl hi hj AI dk AM h1 rfl (hk jl DC) (xk jl DC) h55 ht ?_ (.inl (Mq hl)) rfl (Sd.Md hl hi AI (DD i hi)) (Sd.Md hl hj dk (DD j hj)) hK;show((if l.toNat-1=l.toNat-1 then _ else _:Sd.dG)).many<4294967295;rw[if_pos rfl];show(0:Int)+1<4294967295;decide
  |false=>
   obtain⟨s2,E,a1⟩:=ar_ (n:=jd 60 on) (f:=da u oa) Dt wo hl ht He (by rw[qX];exact Um);rw[E]at ee;simp only[bd]at ee;obtain⟨rfl,-,rfl⟩:=ee;have n1:=DB a1 hl;rw[show(Sd.Ds (Sd.Core.new p2) l).ag.dt l=false from DD l hl]at n1;refine Mn B1 (Dy (by rw[n1];rfl) (Dy rfl ?_));refine acr B1 a1 hl hi hj AI dk AM h1 rfl (hk jl DC) (xk jl DC) h55 ht ?_ (.inr acs) rfl (DD i hi) (DD j hj) hK;show((if l.toNat-1=l.toNat-1 then _ else _:Sd.dG)).many<4294967295;rw[if_pos rfl];show(0:Int)+1<4294967295;decide
theorem as2 {f:Nat->Nat×Sd.aw} {oa:Option aI} {on oc:Nat} (hr:Te x u) (ho:im u oa on oc (da u oa)) (h0:0<=x0/\x0<=255) (h1:0<=x1/\x1<=255) (hK:K (.bool true)):∃r0,Mo (aO aP) fq fG tg tc u x f x0 x1 oa on oc K r0:=by
 rcases asB h0 with e0|e0|e0
 ·exact⟨0,by rw[asK];exact Ul hr ho e0 h1 (by decide) (by decide) (by decide) (by decide) (by decide) rfl hK⟩
 ·exact⟨1,by rw[asL];exact Ul hr ho e0 h1 (by decide) (by decide) (by decide) (by decide) (by decide) rfl hK⟩
 ·exact⟨2,by rw[asM];exact Ul hr ho e0 h1 (by decide) (by decide) (by decide) (by decide) (by decide) rfl hK⟩
end
theorem as3 {W:ae} {tg tc:aD} (hG:W.heap[1]?=some (.cells (aq .u32 64 cx) tg (0,0))) (hC:W.heap[0]?=some (.cells #[.bool false,.bool false,.bool false,.bool false,.bool false,.bool false,.bool false,.bool false,.bool false,.bool false,.bool true,.bool true] tc (0,0)))
 (q:Nat->Int) (ka:Nat->Option aI) (kn kc:Nat->Nat) (hr:∀j,j<4->im W (ka j) (kn j) (kc j) (da W (ka j))) {x0 x1:Int} (h0:0<=x0/\x0<=255) (h1:0<=x1/\x1<=255) {oa:Option aI} {on oc:Nat} (ho:im W oa on oc (da W oa)):
 aQ prog 3 #[.agg (qc ⟨q,λ_=>(0,λ_=>0)⟩ ka kn kc).toArray,.agg #[.int .u8 x0,.int .u8 x1],.slice oa on oc] W λv w1=>v=.bool true/\Ch [] W w1:=by
 have S:=asz hG hC;obtain⟨r0,cJ⟩:=as2 (tg:=tg) (tc:=tc) (u:=W) (x:=⟨q,ka,kn,kc⟩) (f:=λ_=>(0,λ_=>0)) (K:=λv=>v=.bool true) ⟨hr 0 (by decide),hr 1 (by decide),hr 2 (by decide),hr 3 (by decide)⟩ ho h0 h1 rfl;have cC:(aA [1,0] [.agg [.dS ⟨q,λ_=>(0,λ_=>0)⟩ ka kn kc],.agg [.int .u8 x0,.int .u8 x1],.raw (.slice oa on oc)]).toArray=#[.agg (qc ⟨q,λ_=>(0,λ_=>0)⟩ ka kn kc).toArray,.agg #[.int .u8 x0,.int .u8 x1],.slice oa on oc]:=by
  simp only[aA,den,ah,cl,cI];rfl
 rw[<-cC];refine(eD (C:=yy prog gS (Uh (aO aP) fq fG) (Ui (gLg r0)) ack λ_ _=>none) acj.T acj.Q 60 asA rfl S cJ).mono ?_;rintro v w' ⟨x,more,bl',ch',rfl,h1,S',rfl⟩;exact⟨rfl,S'.ch⟩
end
end Go.Proofs.YtggfpcggakghnaaGreatDoor
namespace Go.Proofs.YtggfpcggakghnaaGreatDoor.coreLogin
open Go.ChangeShapes Go.WideShapes Go.ChangeAt Go.RowKit Go.Joins Sd Sx
theorem opened (H:Type) (enc:aD×ab->H) (W:ae) (args:Array ab) (ds gs:List (DataW H)) (before:List MemPlace)
 (DE:∀(j:Nat) t v,Tryz.f3.params[j]?=some t->args[j]?=some v->wC prog W .any 0 t v)
 (hW:DataW.Whole enc prog Tryz.f3.params.toList Rows.coreLoginSpec.vars false W args.toList ds gs before) (hL:laidMetH prog Tf W):
 Rows.coreLoginSpec.fn H (ds++gs)={results:=[.lit (.bool true)],args:=ds,vars:=[]}/\Calls prog 3 args W λe W'=>e=.returned (.bool true)/\Below W.heap.size W W':=by
 obtain⟨p,q,hA,hV,rfl,yj,tj⟩:=hW;obtain⟨tG,hG⟩:=apJ hL;obtain⟨tC,hC⟩:=apW hL;rw[Tryz.params3]at hA DE;obtain⟨v0,v1,v2,d0,d1,d2,p0,p1,p2,cC,rfl,ht⟩:=trodAll_three hA;have LF:=ht.2.1;have ht2:=ht.2.2.2;obtain rfl:args=#[v0,v1,v2]:=by cases args;simp_all
 obtain⟨rfl,rfl⟩:=trodVars_none hV;obtain⟨pq,ka,kn,kc,rfl,hk⟩:=apX (DE 0 28 v0 rfl rfl) (λn=>by obtain⟨fuel,h⟩:=LF;exact Sx.Hg n h);obtain⟨x0,x1,rfl,h0,h1⟩:=apZ (DE 1 29 v1 rfl rfl);obtain⟨oa',on',oc',rfl,_,_⟩:=abf Tryz.underlying23 (apM Tryz.underlying23 rfl (DE 2 23 v2 rfl rfl));obtain⟨oa,on,oc,he,ho⟩:=abi (W:=W) (v:=.slice oa' on' oc') (λn=>by obtain⟨fuel,h⟩:=ht2;exact Sx.Hg n h);simp only[Value.slice.injEq]at he;obtain⟨rfl,rfl,rfl⟩:=he;exact⟨rfl,Sx.acJ (as3 hG hC pq ka kn kc hk h0 h1 ho)⟩
theorem own:ownKnob prog.godebug=none:=by kernel_rfl
def Mr:List (String×DataW Unit):=[("sidestick/gate.commands",Rows.laid_sidestick_gate_commands),("sidestick/sha.roots",acE)]
theorem as4 (os:Os) (args:Array ab):laidMetH prog Mr ((World.doorLaid prog 400 os).forCall (λ_ _=>0) ⟨#[],args,[]⟩).memory:=
 laidMetH_of_parts3 (fuel:=8) (laidMet_of_run' 8 (by kernel_rfl) (by kernel_rfl)) (by kernel_rfl) (by kernel_rfl)
theorem lifted (os:Os) (started:os.Started) (H:Type) (enc:aD×ab->H):
 ReturnsInHanded {} acG os 3 .any (λw args=>(Rows.coreLoginSpec.pre enc prog Tryz.f3 [] false w args/\laidMetH prog Mr w)/\sizedMet enc prog Tryz.f3 (OpenSpec.ofChange Rows.coreLoginSpec) false w args)
  (Rows.coreLoginSpec.post enc prog Tryz.f3 false true false false):=by
 refine returnsInHanded_of_change_and (C:=acG) (X:=λw _=>laidMetH prog Mr w) (λ_ _ _ hh h=>h.of_heap hh) own started (by kernel_rfl) Tryz.func3
  (ChangeSpec.witness_shaped (enc:=enc) (C:=acG) (os:=os) (X:=λw _=>laidMetH prog Mr w) false (World.doorLaid prog 400 os) #[.agg #[.int .i64 0,.int .i64 0,.int .i64 0,.int .i64 0,.int .i64 0,.slice none 0 0,.slice none 0 0,.slice none 0 0,.slice none 0 0,.int .i64 0,.int .i64 0,.int .i64 0,.int .i64 0,.int .i64 0,.int .i64 0,.int .i64 0,.int .i64 0,.int .i64 0,.int .i64 0,.int .i64 0,.int .i64 0,.int .i64 0,.int .i64 0,.int .i64 0,.int .i64 0,.int .i64 0,.int .i64 0,.int .i64 0,.int .i64 0,.int .i64 0,.int .i64 0,.int .i64 0,.int .i64 0,.int .i64 0,.int .i64 0,.int .i64 0,.int .i64 0,.int .i64 0,.int .i64 0,.int .i64 0,.int .i64 0,.int .i64 0,.int .i64 0,.int .i64 0,.int .i64 0,.int .i64 0,.int .i64 0,.int .i64 0,.int .i64 0,.int .i64 0,.int .i64 0,.int .i64 0,.int .i64 0,.int .i64 0,.int .i64 0,.int .i64 0],.agg #[.int .u8 0,.int .u8 0],.slice none 0 0] 8 rfl (World.shaped_of_RefB (by kernel_rfl) (by kernel_rfl)) (by kernel_rfl) (by kernel_rfl) (by kernel_rfl) (as4 os _)) ?_
 intro W base args ds gs before DE hW _ _ hL _;obtain⟨hs,hc⟩:=opened H enc W args ds gs before DE hW hL;refine hc.mono λe W' ⟨he,hb⟩=>⟨_,he,?_⟩;exact apL (by kernel_rfl) (by kernel_rfl) rfl (by kernel_rfl) Tryz.underlying4 hs hW hb
end Go.Proofs.YtggfpcggakghnaaGreatDoor.coreLogin
namespace Go.Proofs.YtggfpcggakghnaaGreatDoor.coreLogin
theorem closed:joinedFacts Tryz.pinned.checked.prog 3 Tryz.f3 Rows.coreLoginSpec Rows.coreLoginRow=true:=by kernel_rfl
open Go.ChangeShapes Go.WideShapes Go.ChangeAt Go.RowKit Go.Joins Sd Sx
theorem said:Rows.CoreLoginSaid:=
 OpenClaim.holds_of_wide 3 Tryz.f3 rfl rfl rfl rfl rfl rfl rfl ⟨rfl,rfl,rfl,rfl,rfl⟩ rfl rfl rfl rfl rfl (by kernel_rfl) Tryz.func3 closed
  (of_decide_eq_true (by kernel_rfl)) (by unfold Func.isWrapper;first|(rw[if_pos (by decide+kernel)];kernel_rfl)|(rw[if_neg (by decide+kernel)];exact⟨rfl,rfl⟩))
  (λos started H enc _=>lifted os started H enc)
theorem proved:Rows.CoreLoginCardSaid:=
 Claim7.holds_tied_plain_at .later [] [.data,.data] true Rows.coreLoginCard.stood.harness true
  said (λ_ h=>by cases h) (by kernel_rfl) (λ_ h=>by cases h) coreLogin_row_tie rfl ⟨rfl,rfl⟩ (by kernel_rfl) rfl
  (λf fn hf Eu=>by
   obtain rfl:f=3:=ck ((show prog.funcNamed "sidestick/sidesticklaw24.CoreLogin" =some 3 by kernel_rfl).symm.trans hf)|>.symm;obtain rfl:fn=Tryz.f3:=(ck (Tryz.func3.symm.trans Eu)).symm;exact⟨by kernel_rfl,λj t ht=>by
    have dA:(Tryz.f3.params.toList.all λu=>!prog.wantsStandIn u)=true:=by kernel_rfl
    have hm:t∈Tryz.f3.params.toList:=by simpa using Array.mem_of_getElem? ht
    exact(show prog.wantsStandIn t=false by simpa using fK.1 dA t hm)⟩)
  (by kernel_rfl)
end Go.Proofs.YtggfpcggakghnaaGreatDoor.coreLogin
