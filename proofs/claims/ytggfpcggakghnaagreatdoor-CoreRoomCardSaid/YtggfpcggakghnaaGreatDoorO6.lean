/- Part 6 of the proof. -/
import Derived.Test.YtggfpcggakghnaaGreatDoorO5
set_option linter.all false
set_option maxRecDepth 100000
set_option maxHeartbeats 4000000
noncomputable section
open Go.Proofs.Tryz
open Go.IntKind (u8 u16 u32 u64 i64)
open Bool renaming and_eq_true->bg,not_eq_true'->lN
open Go renaming Program->aF,TypeId->aG,Addr->aO,Value->ab,World->ae,Operand->ba
open Go.Sem renaming run_bind->bx
open Int renaming ofNat->cJ,reduceEq->zY
open List renaming range->bd,append_nil->cQ,mem_cons->ca,length_append->fq,countP_append->ik,mem_map->mn,mem_of_getElem?->oQ,getD_eq_getElem?_getD->oS,mem_append_left->oU,not_mem_nil->oV,countP_nil->zX
open List.Perm renaming trans->EA
open Nat renaming beq->aq,ble->bu,blt->cu,blt_eq->ie,beq_refl->rV
open Option.some renaming inj->cA
open Prod.mk renaming injEq->bw
namespace Go.Proofs.YtggfpcggakghnaaGreatDoor
section
open Go Go.RowKit Go.BigFrame Sx Vx
theorem adC {q:List Int} (h:∀x∈q,0<=x/\x<=255):By (da q):=by
 intro j;unfold da;rw[oS];cases hq:q[j]?with
 |none=>exact⟨by decide,by decide⟩
 |some x=>exact h x (oQ hq)
theorem auM {m:Sd.aY} (h:ll m):By (mS m):=adC (by
 intro x hx;unfold jr at hx;rcases ca.1 hx with rfl|hx
 ·have:=h.kinds;omega
 ·obtain⟨l,hl,hx⟩:=List.mem_flatten.1 hx;obtain⟨f,_,rfl⟩:=mn.1 hl;obtain⟨j,_,rfl⟩:=mn.1 hx;exact nX _ _ _)
theorem auN {n:Nat} {f g:Nat->Int} (hf:By f) (hg:By g):By (cj n f g):=by
 intro j;unfold cj;cases cu j n with
 |true=>exact hf j
 |false=>exact hg _
theorem adD (kn:Nat) (kf:Nat->Int) (n:Nat) (d:Nat->Int):By (fm kn kf n d):=by unfold fm;exact abd _ _
theorem auO {k:Nat->Int} {s:Int} {n:Nat} {f:Nat->Int} (h:By f):By (gB k s n f):=by unfold gB;exact auN h (adD _ _ _ _)
theorem auP {r:Int} (h:0<=r/\r<=3):By (f2 1 r):=λj=>by unfold f2;split<;>omega
theorem auQ {r:Int} (h:0<=r/\r<=3) {p:Nat->Int} (hp:By p):By (uX r p):=adC (by
 intro x hx;simp only[ca,oV,or_false]at hx;rcases hx with rfl|rfl|rfl|rfl|rfl|rfl|rfl|rfl|rfl|rfl
 ·omega
 ·omega
 all_goals exact hp _)
theorem auR {m:Sd.aY} (h:ll m):dc m<=8:=by
 obtain⟨_,⟨h|h,e⟩|⟨h,e⟩|⟨h,_,e⟩|⟨h,_,e⟩|⟨h,_,_,e⟩⟩:=h<;>(unfold dc jr qt;simp only[h,zY,if_true,if_false];simp)
theorem auS {r:Int} (h:0<=r/\r<=3):Ir r=r:=by
 rcases(by omega:r=0\/r=1\/r=2\/r=3)with rfl|rfl|rfl|rfl<;>decide
theorem mf.app {l:List (Int×Sd.aE)} {fv:Nat->uO} {fn:List ai} (h:mf bO l fv fn) (fB:List ai):mf bO l fv (fn++fB):=λj hj=>by
 obtain⟨x,c,b,h1,h2,h3⟩:=h j hj;exact⟨x,c,b,h1,h2,λy hy=>oU _ (h3 y hy)⟩
theorem adE {k:LK} {s:Sd.aa} (h:ef k s) (l code:Int) (n:Nat) (f:Sd.av):Sd.fb (aJ aH) False s (fM (aJ aH) s l code n f) 0 l:=by
 unfold fM;split
 ·rename_i hl;exact Sd.aai DS h.i hl (λe=>e.elim)
 ·exact .jT h.i (Sd.Quiet.refl ..)
theorem Np {k:LK} {s:Sd.aa} (h:ef k s) (l code:Int) (n:Nat) (f:Sd.av):(fM (aJ aH) s l code n f).c.p=s.c.p:=Ui (adE h l code n f)
theorem Nq {k:LK} {s:Sd.aa} (h:ef k s) (l code:Int) (n:Nat) (f:Sd.av):(∀y∈(fM (aJ aH) s l code n f).bh,Sd.rJ y)/\(fM (aJ aH) s l code n f).bh.length<=10:=by
 refine⟨(adE h l code n f).auL h.e1,?_⟩;have h1:Sd.Gr 10 s (fM (aJ aH) s l code n f):=by
  unfold fM;split
  ·exact Sd.auo _ _ _ _ _ _
  ·exact(Sd.Gr.c0 rfl rfl).le (by decide)
 have:=h1.2;rw[h.e1]at this;simpa using this
theorem Vt {k:LK} {s':Sd.aa} {r:TR} {fB:List ai} {l:Int} {X:Sd.aE->Prop} (hf:mf bO s'.bh r.fv fB) (hs:∀y∈s'.bh,Sd.rJ y) (hl:s'.bh.length<=1000) (hX:X (Sd.jW (Sd.eV s'.bh l))):Nn k s' r fB l X:=
 ⟨s'.bh,r.fv,⟨rfl,rfl,rfl,hs,hl,hf,k.tg,rfl⟩,λrs e x' c' ty us=>⟨rs,⟨rfl,rfl,rfl,by rw[e];have:=ads s'.bh l;omega⟩,by rw[e];exact hX⟩⟩
theorem Vu {k:LK} {s:Sd.aa} (h:s.c.p.queue=k.most):Mr k s:=⟨rfl,rfl,rfl,rfl,rfl,h⟩
theorem ls8 (g:Nat->Int):∀j,j<8->da [g 0,g 1,g 2,g 3,g 4,g 5,g 6,g 7] j=g j:=by
 intro j hj;rcases(by omega:j=0\/j=1\/j=2\/j=3\/j=4\/j=5\/j=6\/j=7)with rfl|rfl|rfl|rfl|rfl|rfl|rfl|rfl<;>rfl
theorem auT (g:Nat->Int):∀j,j<32->da [g 0,g 1,g 2,g 3,g 4,g 5,g 6,g 7,g 8,g 9,g 10,g 11,g 12,g 13,g 14,g 15,g 16,g 17,g 18,g 19,g 20,g 21,g 22,g 23,g 24,g 25,g 26,g 27,g 28,g 29,g 30,g 31] j=g j:=by
 intro j hj;have e:[g 0,g 1,g 2,g 3,g 4,g 5,g 6,g 7,g 8,g 9,g 10,g 11,g 12,g 13,g 14,g 15,g 16,g 17,g 18,g 19,g 20,g 21,g 22,g 23,g 24,g 25,g 26,g 27,g 28,g 29,g 30,g 31]=(bd 32).map g:=rfl;rw[e];exact yE hj
section
variable{k:LK} {s:Sd.aa} {F:aW bO (aR k s)} {u:ae} {fB:List ai} {kf:Nat->Int} {l r:Int} {m:Sd.aY} {K:VK (LG bO)} {wr:Bool} {n c:Nat} {f:Sd.av} {us:List ab}
theorem auU (hC:ef k s) (v1:cO=F.vs) (v2:cO=F.vr) (hN:nO k) (hq:s.c.p.queue=k.most) (hl:1<=l/\l<=3) (hm:ll m)
 (hK:∀s',s'=fM (aJ aH) s l 0 (dc m+8) (gB kf l (dc m) (mS m))->∀(r:TR) (fn:List ai) (F0:aW bO (aR k (cE s'))),cO=F0.vs->cO=F0.vr->mf bO s'.bh r.fv fn->K (.an [r.v s' 4,.agg (ia (Sd.jW (Sd.eV s'.bh l)))]) (cP k (cE s')++[r.sB s',r.rB s']) [.aZ u,.core (a_ k (cE s') F0) (fn++fB)]):
 syX (aJ aH) k s F u fB kf l m K:=by
 have hn:=auR hm;refine⟨hm,λd us=>⟨kf,⟨rfl,by omega,by omega,rfl,auT kf,k.tg,rfl⟩,λd=>⟨Vu hq,⟨rfl,rfl,rfl⟩,hN,⟨by rw[qc];exact hC,v1,v2,by omega,auO (auM hm)⟩,?_⟩⟩⟩;rw[qc];intro s' hs r fn F0 w1 w2 hf;have hI:=Nq hC l 0 (dc m+8) (gB kf l (dc m) (mS m));rw[<-hs]at hI;exact Vt (hf.app fB) hI.1 (by have:=hI.2;omega) (hK s' hs r fn F0 w1 w2 hf)
theorem auV (hC:ef k s) (v1:cO=F.vs) (v2:cO=F.vr) (hN:nO k) (hq:s.c.p.queue=k.most) (hl:1<=l/\l<=3) (hr:0<=r/\r<=3) (hc:n<=c) (hn:n<=64)
 (hK:∀s' key rep,(s',key,rep)=oN (aJ aH) s l r n f->∀(F':aW bO (aR k s')) (ib:List ai),cO=F'.vs->cO=F'.vr->K (.an [.agg (ints 32 key),.agg (ia rep)]) (cP k s'++[tz wr n f us]) [.aZ u,.core (a_ k s' F') ib]):Vr (aJ aH) k s F u fB wr n f us c l r K:=by
 unfold Vr;dsimp only;rw[qc,auS hr];refine⟨Vu hq,⟨rfl,rfl,rfl⟩,hN,⟨by rw[qc];exact hC,v1,v2,by decide,auP hr⟩,?_⟩;intro s1 gY r1 Ep F1 w1 w2 vQ;have hC1:ef k (cE s1):=by rw[gY];exact hC.item _ _ _ _
 have Fq:s1.c.p=s.c.p:=by rw[gY];exact Np hC _ _ _ _
 have hI:=Nq hC l 0 2 (f2 1 r);rw[<-gY]at hI;refine Vt (vQ.app fB) hI.1 (by have:=hI.2;omega) (aI (λe=>?_) (λe=>?_))
 ·have e1:¬(Sd.jW (Sd.eV s1.bh l)).kind=129:=by simpa using e
  have hz:=hK (cE s1) lg (Sd.jW (Sd.eV s1.bh l)) (by
   unfold oN;dsimp only;rw[<-gY,if_neg e1]) F1 (Ep++fB) w1 w2
  exact⟨hz,hz⟩
 ·have e1:(Sd.jW (Sd.eV s1.bh l)).kind=129:=by simpa using e
  have sp:Vq k n c l r (Sd.jW (Sd.eV s1.bh l)) (Sd.jW (Sd.eV s1.bh l)).aw:=⟨⟨rfl,hc,hn⟩,by omega,by omega,rfl,ls8 _,k.tg,rfl⟩;refine⟨_,sp,λd=>⟨Vu (by show s1.c.p.queue=k.most;rw[Fq];exact hq),⟨rfl,rfl,rfl⟩,hN,⟨by rw[qc];exact hC1,w1,w2,by decide,auQ hr (adD _ _ _ _)⟩,?_⟩⟩;rw[qc];intro s2 xP r2 Is F2 z1 z2 t_;have Vv:=Nq hC1 l 0 10 (uX r (jR n f l r (Sd.jW (Sd.eV s1.bh l)).aw));rw[<-xP]at Vv;refine⟨_,sp,Vt (t_.app _) Vv.1 (by have:=Vv.2;omega) (hK (cE s2) _ _ ?_ F2 _ z1 z2)⟩;unfold oN;dsimp only;rw[<-gY,if_pos e1,<-xP]
end
def Vw (C:Sd.aL):ae->LM bO:=λu ar k s F K=>match ar with
 |[.agg kl,.int .i64 l,.agg ml]=>(match yM ml with
  |some m=>∃kf:Nat->Int,(kl=ints 32 kf/\ll m/\(1<=l/\l<=3)/\nO k/\(ef k s/\cO=F.vs/\cO=F.vr))/\
   Eo (fr:=bO) (k:=k) (fM C s l 0 (dc m+8) (gB kf l (dc m) (mS m))) λs' r fn F0=>K (.an [r.v s' 0,.agg (ia (Sd.jW (Sd.eV s'.bh l)))]) (cE s') F0 fn [r.sB s',r.rB s']
  |none=>False)
 |_=>False
theorem adF (a b:Nat):Gl gS (cF a b):=by
 intro g i dz;unfold gS at dz;split at dz
 ·obtain rfl:=cA dz;exact⟨by simp,rfl⟩
 ·obtain rfl:=cA dz;exact⟨by simp,rfl⟩
 ·cases dz
theorem auW:zh (fr:=bO) 18 (Vw (aJ aH)):=by
 intro u ar k s F Kb a b R ms w0 w h0 hq hM S;unfold Vw at hM;split at hM
 ·rename_i kl l ml;split at hM
  ·rename_i m hm;obtain rfl:=Dv hm;obtain⟨kf,⟨rfl,hp,hl,hN,hC,v1,v2⟩,hT⟩:=hM
   let K:VK (LG bO):=λv bl ch=>∃(s':Sd.aa) (F0:aW bO (aR k (cE s'))) (r:TR) (fn:List ai),v=.an [r.v s' 4,.agg (ia (Sd.jW (Sd.eV s'.bh l)))]/\bl=cP k (cE s')++[r.sB s',r.rB s']/\ch=[.aZ u,.core (a_ k (cE s') F0) (fn++[])]/\Kb (.an [r.v s' 0,.agg (ia (Sd.jW (Sd.eV s'.bh l)))]) (cE s') F0 fn [r.sB s',r.rB s']
   have cS:bo (tv prog gS (Nm (aJ aH)) uW xp λ_ _=>none) 60 18 [.ptr 2 0,.agg (ints 32 kf),.int .i64 l,.agg (cI m)] (cP k s) [.aZ u,.core (a_ k s F) []] (br 4 K):=by
    rw[auF];exact auU hC v1 v2 hN hq hl hp λs' e r fn F0 z1 z2 hf=>⟨s',F0,r,fn,rfl,rfl,rfl,hT s' e r fn F0 z1 z2 hf⟩
   refine(eG adx.T adx.Q 60 (C:=tv prog gS (Nm (aJ aH)) uW xp λ_ _=>none) (ids:=cF a b) (bl:=cP k s) (ch:=[.aZ u,.core (a_ k s F) []]) (R:=R) (ms:=ms) (w0:=w0) (w:=w) (adF a b) rfl (by
    refine S.perm ?_;show List.Perm _ (_++(dC u++((F.B++[])++R)));exact gO λf=>by simp only[ik,zX];omega) cS).mono ?_
   rintro v w' ⟨x,more,bl',ch',rfl,h1,S',hK⟩;obtain⟨v2',cB,bl2,hv,cW,S2,s',F0,r,fn,rfl,rfl,rfl,hKb⟩:=hU (n0:=4) h1 (by simp) S' hK;have Uh:(cF a b++more).take 4=cF a b:=rfl;rw[Uh]at hv cW S2;have eR:ax [LG.aZ u,LG.core (a_ k (cE s') F0) (fn++[])] R=dC u++((F0.B++(fn++[]))++R):=rfl;rw[eR]at S2;rw[hv]
   match cB,cW with
   |[i1,i2],_=>
    refine⟨_,_,F0,fn,_,[i1,i2],rfl,?_,rfl,hKb,?_⟩
    ·simp only[TR.v,Uc,den,aD,ah,cl,cQ];rfl
    ·have e2:lits (cF a b++[i1,i2]) (cF a b++[i1,i2]) (cP k (cE s')++[r.sB s',r.rB s'])=lits (cF a b) (cF a b) (cP k (cE s'))++lits [i1,i2] [i1,i2] [r.sB s',r.rB s']:=by
      rw[eZ _ _ _ _ rfl,e_ (ids:=cF a b) (more:=[i1,i2]) (cF a b) (cP k (cE s')) rfl,zi (ids':=[i1,i2]) [i1,i2] _ rfl]
     rw[e2]at S2;exact S2.perm (gO λf=>by simp only[ik,zX];omega)
   |[],h=>simp[cP]at h
   |[_],h=>simp[cP]at h
   |_::_::_::_,h=>simp[cP]at h
  ·exact hM.elim
 ·exact hM.elim
def Vy (C:Sd.aL):c_ (LG bO):=λargs bl ch K=>match args,ch with
 |[.ptr ic 0,.sl ip 0 n c,.int .i64 l,.int .i64 r],.aZ u::.core g fB::rest=>(match Ek bl (.sl ip 0 n c)with
  |some (_,n',f)=>(match bl[ic]?with
   |some ⟨true,⟨105,(0,0)⟩,cc⟩=>(match Bc cc with
    |some x=>(match bl[x.it]?with
     |some ⟨true,⟨157,(0,0)⟩,tc⟩=>(match s7 tc with
      |some y=>cond (bM bl.length bl&&(cu 1 ip&&(cu 1 ic&&(cu 1 x.it&&(!(aq ic x.it)&&(!(aq ic ip)&&!(aq x.it ip)))))))
       ((bl[0]?=some (b9 g.d.k)/\bl[1]?=some (iB g.d.k)/\x=lG g.d.k x.it (fi x y g.d g.dx g.sx)/\y.b=x.p.bW/\y.m=x.p.d_/\x.p.queue=g.d.k.most)/\
         (n=n'/\n<=c/\n<=64)/\nO g.d.k/\(ef g.d.k (fi x y g.d g.dx g.sx)/\cO=g.F.vs/\cO=g.F.vr)/\((1<=l/\l<=3)/\0<=r/\r<=3)/\
         ∀(s':Sd.aa) (key:Sd.av) (rep:Sd.aE),(s',key,rep)=oN C (fi x y g.d g.dx g.sx) l r n f->∀(F':aW bO (aR g.d.k s')) (ib:List ai),cO=F'.vs->cO=F'.vr->
          K (.an [.agg (ints 32 key),.agg (ia rep)]) (eC bl ic x.it g.d.k s') (.aZ u::.core (a_ g.d.k s' F') ib::rest)) False
      |none=>False)
     |_=>False)
    |none=>False)
   |_=>False)
  |none=>False)
 |_,_=>False
theorem auX (a b c:Nat):Gl gS (cF a b++[c]):=(adF a b).app [c]
theorem auY {ids:List Nat} {bl:List VB} {k:LK} {s:Sd.aa} {F:aW bO (aR k s)} {u:ae} {fB:List ai} {rest:List (LG bO)} {R:List ai} {ms:List Nat} {w0 w:ae} {ic it ip n c:Nat} {wr:Bool} {f:Sd.av} {rs:List V} {l r:Int} {K:VK (LG bO)}
 (hg:Gl gS ids) (hl:ids.length=bl.length) (S:St ms w0 (lits ids ids bl++ax (.aZ u::.core (a_ k s F) fB::rest) R) w) (H:BK bl ic it k s) (xd:bl[ip]?=some ⟨wr,⟨5,(0,0)⟩,.bJ .u8 n f::rs⟩) (qw:bM bl.length bl=true) (q1:1<ip) (q2:1<ic) (q3:1<it) (n4:ic≠it) (n5:ic≠ip) (n6:it≠ip)
 (hC:ef k s) (v1:cO=F.vs) (v2:cO=F.vr) (D7:nO k) (hqm:s.c.p.queue=k.most) (M3:1<=l/\l<=3) (Vz:0<=r/\r<=3) (Im:n<=c) (hn:n<=64)
 (hK:∀s' key rep,(s',key,rep)=oN (aJ aH) s l r n f->∀(F':aW bO (aR k s')) (ib:List ai),cO=F'.vs->cO=F'.vr->K (.an [.agg (ints 32 key),.agg (ia rep)]) (eC bl ic it k s') (.aZ u::.core (a_ k s' F') ib::rest)):
 aS prog 13 (aD ids [.ptr ic 0,.sl ip 0 n c,.int .i64 l,.int .i64 r]).toArray w λv w'=>∃x more bl' ch',v=den (ids++more) x/\(ids++more).length=bl'.length/\St ms w0 (lits (ids++more) (ids++more) bl'++ax ch' R) w'/\K x bl' ch':=by
 have l1:=iU xd;have l2:=iU H.hc;have l3:=iU H.ht;obtain⟨r',hr,hp⟩:=yW (bl:=bl) (ids:=ids) hl (is:=[0,1,ic,it,ip]) (by simp;omega) (by
  intro i hi;simp only[ca,oV,or_false]at hi;rcases hi with rfl|rfl|rfl|rfl|rfl<;>omega)
 have emp:∀(bl':List VB),[0,1,ic,it,ip].map (λj=>az ids (ids.getD j 0) (bl'.getD j di))=([0,1,ic,it].map λj=>az ids (ids.getD j 0) (bl'.getD j di))++[az ids (ids.getD ip 0) (bl'.getD ip di)]:=λ_=>rfl;generalize hI:cF (ids.getD ic 0) (ids.getD it 0)=I at*;have It:I.length=4:=by rw[<-hI];rfl
 have HJ:az ids (ids.getD ip 0) ⟨wr,⟨5,(0,0)⟩,.bJ .u8 n f::rs⟩=az [] (ids.getD ip 0) (tz wr n f (ah ids rs)):=by
  unfold az tz;simp only[ah,cl,cQ]
 have gM:=hp bl rfl;rw[emp,D4 H hg,jm xd,hI]at gM;have adG:∀s':Sd.aa,lits (I++[ids.getD ip 0]) (I++[ids.getD ip 0]) (cP k s'++[tz wr n f (ah ids rs)])=lits I I (cP k s')++[az [] (ids.getD ip 0) (tz wr n f (ah ids rs))]:=λs'=>by
  rw[eZ _ _ _ _ (by rw[It];rfl),e_ (ids:=I) (more:=[ids.getD ip 0]) _ (cP k s') (by rw[It];rfl),zi (ids':=[]) [ids.getD ip 0] [tz wr n f (ah ids rs)] rfl];rfl
 have S1:St ms w0 (lits (I++[ids.getD ip 0]) (I++[ids.getD ip 0]) (cP k s++[tz wr n f (ah ids rs)])++ax [LG.aZ u,LG.core (a_ k s F) fB] ((r'.map λj=>az ids (ids.getD j 0) (bl.getD j di))++ax rest R)) w:=S.perm (by
  refine(gM.append_right _).trans ?_;rw[adG,<-HJ];show(_++(dC u++((F.B++fB)++ax rest R))).Perm (_++(dC u++((F.B++fB)++((r'.map λj=>az ids (ids.getD j 0) (bl.getD j di))++ax rest R))));exact gO λf=>by simp only[ik];omega)
 have cS:bo (tv prog gS (No (aJ aH)) uW xp λ_ _=>none) 60 13 [.ptr 2 0,.sl 4 0 n c,.int .i64 l,.int .i64 r] (cP k s++[tz wr n f (ah ids rs)]) [.aZ u,.core (a_ k s F) fB] (br 5 λv b c=>∃(s':Sd.aa) (key:Sd.av) (rep:Sd.aE) (F':aW bO (aR k s')) (ib:List ai),(s',key,rep)=oN (aJ aH) s l r n f/\cO=F'.vs/\cO=F'.vr/\v=.an [.agg (ints 32 key),.agg (ia rep)]/\b=cP k s'++[tz wr n f (ah ids rs)]/\c=[.aZ u,.core (a_ k s' F') ib]):=by
  rw[auG];exact auV hC v1 v2 D7 hqm M3 Vz Im hn λs' key rep e F' ib z1 z2=>⟨s',key,rep,F',ib,e,z1,z2,rfl,rfl,rfl⟩
 have cR:aD ids [.ptr ic 0,.sl ip 0 n c,.int .i64 l,.int .i64 r]=aD (I++[ids.getD ip 0]) [.ptr 2 0,.sl 4 0 n c,.int .i64 l,.int .i64 r]:=by rw[<-hI];rfl
 rw[cR];refine(eG ady.T ady.Q 60 (C:=tv prog gS (No (aJ aH)) uW xp λ_ _=>none) (by rw[<-hI];exact auX _ _ _) (by rw[fq,It];rfl) S1 cS).mono ?_;rintro v w' ⟨xv,more,bl',ch',rfl,h1,S',sS⟩;obtain⟨v2',cB,bl2,hv,cW,S2,s',key,rep,F',ib,auZ,z1,z2,rfl,rfl,rfl⟩:=hU (n0:=5) h1 (by rw[fq,fq,It];simp) S' sS;have ht5:(I++[ids.getD ip 0]++more).take 5=I++[ids.getD ip 0]:=by rw[<-hI];rfl
 rw[ht5]at hv cW S2;have hm2:cB=[]:=by
  have:(I++[ids.getD ip 0]++cB).length=5:=cW;rw[fq,fq,It]at this;simp at this;exact this
 subst hm2;rw[cQ,adG]at S2;refine⟨.an [.agg (ints 32 key),.agg (ia rep)],[],eC bl ic it k s',.aZ u::.core (a_ k s' F') ib::rest,?_,?_,?_,hK s' key rep auZ F' ib z1 z2⟩
 ·rw[hv];simp only[den,aD,cQ,yA];rfl
 ·simp[eC,hl]
 ·have H':=T9 H q2 q3 n4 s';have nG:=hp (eC bl ic it k s') (by simp[eC]);have CV:(eC bl ic it k s').getD ip di=⟨wr,⟨5,(0,0)⟩,.bJ .u8 n f::rs⟩:=by
   have:(eC bl ic it k s')[ip]?=some ⟨wr,⟨5,(0,0)⟩,.bJ .u8 n f::rs⟩:=by
    unfold eC;rw[kH n6,kH n5];exact xd
   exact jm this
  rw[emp,D4 H' hg,CV,hI]at nG;have Bg:(r'.map λj=>az ids (ids.getD j 0) ((eC bl ic it k s').getD j di))=r'.map λj=>az ids (ids.getD j 0) (bl.getD j di):=by
   unfold eC;refine T_ ?_;intro j hj;have:=hr j hj;simp only[ca,oV,or_false,not_or]at this;omega
  rw[Bg]at nG;rw[cQ];rw[<-HJ]at S2;refine S2.perm ?_;show List.Perm ((_++_)++(dC u++((F'.B++ib)++((r'.map λj=>az ids (ids.getD j 0) (bl.getD j di))++ax rest R)))) (lits ids ids (eC bl ic it k s')++(dC u++((F'.B++ib)++ax rest R)));refine EA ?_ (nG.symm.append_right _);exact gO λf=>by simp only[ik];omega
theorem au0:Sound prog gS 13 (Vy (aJ aH)):=by
 intro args ids bl ch R ms w0 w K hg hl S hc;unfold Vy at hc;split at hc
 ·rename_i ic ip n c l r u g fB rest;split at hc
  ·rename_i nc n' f im;split at hc
   ·rename_i cc qY;split at hc
    ·rename_i x hx;split at hc
     ·rename_i tc uA;split at hc
      ·rename_i y hy;cases hq:bM bl.length bl&&(cu 1 ip&&(cu 1 ic&&(cu 1 x.it&&(!(aq ic x.it)&&(!(aq ic ip)&&!(aq x.it ip))))))with
       |false=>rw[hq]at hc;exact hc.elim
       |true=>
        rw[hq]at hc;simp only[bg,lN,ie]at hq;obtain⟨qw,q1,q2,q3,q4,q5,q6⟩:=hq;have nb:∀{a b:Nat},aq a b=false->a≠b:=λh e=>by rw[e,rV]at h;cases h
        obtain⟨⟨e3,e4,e5,e6,e7,e8⟩,⟨rfl,Im,hn⟩,D7,⟨hC,v1,v2⟩,⟨M3,Vz⟩,hK⟩:=hc;obtain rfl:=GW hx;obtain rfl:=yV hy;have H:BK bl ic x.it g.d.k (fi x y g.d g.dx g.sx):=by
         refine⟨e3,e4,?_,?_⟩
         ·rw[qY];congr 1;unfold gL;rw[<-e5]
         ·rw[uA];congr 1;unfold gE;have:y=uz (fi x y g.d g.dx g.sx):=by
           obtain⟨y1,y2,y3,y4,y5,y6,y7,y8⟩:=y;simp only at e6 e7;subst e6 e7;rfl
          rw[<-this]
        obtain⟨wr,rs,xd⟩:∃wr rs,bl[ip]?=some ⟨wr,⟨5,(0,0)⟩,.bJ .u8 n f::rs⟩:=by
         unfold Ek at im;split at im
         ·rename_i i n1 c1 hsl;cases hsl;split at im
          ·rename_i wr n2 f2 r hb;cases im;exact⟨wr,r,hb⟩
          ·cases im
         ·cases im
        exact auY (k:=g.d.k) (s:=fi x y g.d g.dx g.sx) (F:=g.F) hg hl S H xd qw q1 q2 q3 (nb q4) (nb q5) (nb q6) hC v1 v2 D7 e8 M3 Vz Im hn hK
      ·exact hc.elim
     ·exact hc.elim
    ·exact hc.elim
   ·exact hc.elim
  ·exact hc.elim
 ·exact hc.elim
variable{fr:Sd.aE->Nat×Sd.av}
def nY (p:Nat->Int) (i:Nat):Int:=
 bif bu i 13 then(bif aq i 9 then 1 else bif aq i 13 then 0 else bif bu 10 i then 14 else p i)
 else bif bu i 33 then 15 else bif bu i 38 then 31
 else bif aq i 42||(aq i 44||aq i 45)then 900 else bif aq i 48||aq i 49 then 3 else bif aq i 55 then(p 55).tmod 60000 else p i
def adH (x:gp) (u:ae) (K:VK (LG fr)):Prop:=(kM x u 0/\kM x u 1/\kM x u 2/\kM x u 3)/\∀(p:Nat->Int) (n d:Nat->Nat),Made x p n->
 K (.agg (HR (nY p) n d)) [dN (n 0) (d 0) (kL (x.kn 0) (fk u (x.ka 0))),dN (n 1) (d 1) (kL (x.kn 1) (fk u (x.ka 1))),dN (n 2) (d 2) (kL (x.kn 2) (fk u (x.ka 2))),dN (n 3) (d 3) (kL (x.kn 3) (fk u (x.ka 3)))] [.aZ u]
def VA (fr:Sd.aE->Nat×Sd.av):List (bK (LG fr)):=[⟨10,false,Mu⟩]
theorem adI:aC prog cU (VA fr):=aC.cons ⟨acb,λe=>by cases e⟩ aC.nil
theorem au1 (x:gp) (f:Nat->Nat×Sd.av) (u:ae) (K:VK (LG fr)):bo (bP prog cU (VA fr)) 60 17 [.agg [.eo ⟨x.q,f⟩ x.ka x.kn x.kc]] [] [.aZ u] (br 0 K)=adH x u K:=by kernel_rfl
def VC:c_ (LG fr):=λargs bl ch K=>match args,ch with
 |[.agg l],.aZ u::rest=>(match Ms l with
  |some x=>cond (bM bl.length bl) (adH x u λv b c=>K (gI bl.length v) (bl++w8 bl.length b) (c++rest)) False
  |none=>False)
 |_,_=>False
theorem au2 {gl:Nat->Option Nat}:Sound prog gl 17 (VC (fr:=fr)):=by
 intro args ids bl ch R ms w0 w K hg hl S hc;unfold VC at hc;split at hc
 ·rename_i l u rest;split at hc
  ·rename_i x hx;cases hq:bM bl.length bl with
   |false=>rw[hq]at hc;exact hc.elim
   |true=>
    rw[hq]at hc;refine ab4 (C:=bP prog cU (VA fr)) (n:=60) (args':=[.agg [.eo ⟨x.q,λ_=>(0,λ_=>0)⟩ x.ka x.kn x.kc]]) (ch0:=[.aZ u]) (rest:=rest) adI.T adI.Q rfl hl hq ?_ S (by rw[au1];exact hc);simp only[aD,den,ab8 hx (λ_=>(0,λ_=>0)) ids,ah,cl,cQ]
  ·exact hc.elim
 ·exact hc.elim
theorem au3:Sound prog gS 14 (H7 (fr:=bO)):=by
 intro args ids bl ch R ms w0 w K hg hl S hc;have key:w9 (λ_=>Mn) args bl ch λv b c=>∃ex,b=bl++ex/\(∀Y,ax c Y=ax ch Y)/\K v (bl++ex) ch:=by
  unfold H7 at hc;unfold w9;split at hc
  ·rename_i ic u g fB rest;split at hc
   ·rename_i cc qY;try simp only[qY]
    split at hc
    ·rename_i x hx;try simp only[hx]
     split at hc
     ·rename_i tc uA;try simp only[uA]
      split at hc
      ·rename_i y hy;try simp only[hy]
       cases hq:bM bl.length bl&&(cu 1 ic&&(cu 1 x.it&&!(aq ic x.it)))with
       |false=>rw[hq]at hc;exact hc.elim
       |true=>
        rw[hq]at hc;obtain⟨⟨e3,e4,e5,e6,e7,e8⟩,hK⟩:=hc;simp only[bj,Bool.true_and,cond_true];refine⟨⟨e3,e4,e5,e6,e7,e8⟩,λz c ty us=>?_⟩;have kV:bl[ic]?=some (gL g.d.k x.it (fi x y g.d g.dx g.sx)):=by
         rw[qY,GW hx];congr 1;unfold gL;rw[<-e5]
        have ji:bl[x.it]?=some (gE (fi x y g.d g.dx g.sx)):=by
         rw[uA,yV hy];congr 1;unfold gE;have:y=uz (fi x y g.d g.dx g.sx):=by
          obtain⟨y1,y2,y3,y4,y5,y6,y7,y8⟩:=y;simp only at e6 e7;subst e6 e7;rfl
         rw[<-this]
        have hs:eC bl ic x.it g.d.k (fi x y g.d g.dx g.sx)=bl:=by
         unfold eC;rw[acG kV,acG ji]
        exact⟨_,congrArg (·++_) hs,λY=>rfl,hK z c ty us⟩
      ·exact hc.elim
     ·exact hc.elim
    ·exact hc.elim
   ·exact hc.elim
  ·exact hc.elim
 refine(abS (abY Eh) args ids bl ch R ms w0 w _ hg hl S key).mono ?_;rintro v w' ⟨x,more,bl',ch',hv,h1,S',ex,rfl,hn,hK⟩;exact⟨x,more,_,ch,hv,h1,by rw[hn]at S';exact S',hK⟩
def LBs (C:Sd.aL):List (bK (LG bO)):=[⟨9,false,UG⟩,⟨17,false,VC⟩,⟨11,false,MF⟩,⟨13,false,Vy C⟩,⟨18,false,w9 (Vw C)⟩,⟨14,true,H7⟩,⟨19,true,B7⟩]
theorem au4:aC prog gS (LBs (aJ aH)):=
 have n:∀{c:c_ (LG bO)},(false=true->hJ c):=λe=>by cases e
 aC.cons ⟨arP Eh,n⟩ (aC.cons ⟨au2,n⟩ (aC.cons ⟨acj,n⟩ (aC.cons ⟨au0,n⟩ (aC.cons (Ml auW) (aC.cons ⟨au3,λ_=>arQ⟩ (aC.cons ⟨Vi,λ_=>Vm⟩ aC.nil))))))
section
variable(C:Sd.aL) (tg tc:aG) (it:Nat)
def VD (u:ae) (x:gp) (L:List V) (m:Nat->Nat) (X:(p2:Sd.aN)->(k:LK)->aW bO (aR k (gT p2))->Prop):Prop:=HV L (n4 m)/\∀(p2:Sd.aN) (k:LK) (F:aW bO (aR k (gT p2))),HW L (uR x u) tg tc p2 k->cO=F.vs->cO=F.vr->X p2 k F
variable(k:LK) (s:Sd.aa) (F:aW bO (aR k s))
def Nr:Prop:=ef k (bQ s)/\cO=F.vs/\cO=F.vr
def B8 (n c:Nat) (f:Sd.av) (l r:Int) (X:(s':Sd.aa)->Sd.av->Sd.aE->aW bO (aR k s')->List ai->Prop):Prop:=
 xi tg tc it k s/\(n=n/\n<=c/\n<=64)/\nO k/\Nr k s F/\((1<=l/\l<=3)/\0<=r/\r<=3)/\∀s' key rep,(s',key,rep)=oN C (bQ s) l r n f->∀(F':aW bO (aR k s')) (ib:List ai),cO=F'.vs->cO=F'.vr->X s' key rep F' ib
def Ns (key:Sd.av) (l:Int) (m:Sd.aY) (X:(s':Sd.aa)->TR->List ai->aW bO (aR k (cE s'))->Prop):Prop:=
 xi tg tc it k s/\∃kf:Nat->Int,(ints 32 key=ints 32 kf/\ll m/\(1<=l/\l<=3)/\nO k/\Nr k s F)/\Eo (fr:=bO) (k:=k) (fM C (bQ s) l 0 (dc m+8) (gB kf l (dc m) (mS m))) X
def Iu (X:Prop):Prop:=xi tg tc it k s/\∀(z:Option aO) (c ty:Nat) (us:List ab),X
end
def R3 (n:Int) (X:Int->Prop):Prop:=0<=n/\cond (n.tmod 3==0) (X 0) (cond (n.tmod 3==1) (X 1) (X 2))
theorem czT {b:Bool} {X Y:Prop} (h:b=true) (k:X):cond b X Y:=by rw[h];exact k
theorem mU {b:Bool} {X Y:Prop} (h:b=false) (k:Y):cond b X Y:=by rw[h];exact k
section
variable{tg tc:aG} {it:Nat} {k:LK} {s:Sd.aa} {F:aW bO (aR k s)} {l r:Int}
theorem au5 {n:Nat} {f:Sd.av} {s':Sd.aa} {key:Sd.av} {rep:Sd.aE} (h:ef k s) (e:(s',key,rep)=oN (aJ aH) s l r n f):ef k s'/\s'.c.p=s.c.p:=by
 unfold oN at e;dsimp only at e;have h1:=h.item l 0 2 (f2 1 r);have p1:=Np h l 0 2 (f2 1 r);split at e
 ·simp only[bw]at e;obtain⟨rfl,_,_⟩:=e;exact⟨h1.item _ _ _ _,(Np h1 _ _ _ _).trans p1⟩
 ·simp only[bw]at e;obtain⟨rfl,_,_⟩:=e;exact⟨h1,p1⟩
structure jX (tg tc:aG) (k:LK) (s:Sd.aa) (F:aW bO (aR k s)):Prop where
 tg:k.tg=tg
 tc:k.tc=tc
 q:s.c.p.queue=k.most
 kj:nO k
 c:ef k s
 v1:cO=F.vs
 v2:cO=F.vr
theorem jX.co (h:jX tg tc k s F):Nr k s F:=⟨by rw[qc];exact h.c,h.v1,h.v2⟩
theorem jX.cy (h:jX tg tc k s F):xi tg tc it k s:=H6 h.tg h.tc h.q
theorem adJ {n c:Nat} {f:Sd.av} {X:(s':Sd.aa)->Sd.av->Sd.aE->aW bO (aR k s')->List ai->Prop} (h:jX tg tc k s F) (hc:n<=c) (hn:n<=64) (hl:1<=l/\l<=3) (hr:0<=r/\r<=3)
 (hX:∀s' key rep,(s',key,rep)=oN (aJ aH) s l r n f->∀(F':aW bO (aR k s')) (ib:List ai),jX tg tc k s' F'->X s' key rep F' ib):B8 (aJ aH) tg tc it k s F n c f l r X:=by
 refine⟨h.cy,⟨rfl,hc,hn⟩,h.kj,h.co,⟨hl,hr⟩,λs' key rep e F' ib v1 v2=>?_⟩;rw[qc]at e;have hC:=au5 h.c e;exact hX s' key rep e F' ib ⟨h.tg,h.tc,by rw[hC.2];exact h.q,h.kj,hC.1,v1,v2⟩
theorem au6 {key:Sd.av} {m:Sd.aY} {X:(s':Sd.aa)->TR->List ai->aW bO (aR k (cE s'))->Prop} (h:jX tg tc k s F) (hl:1<=l/\l<=3) (hm:ll m)
 (hX:∀s',s'=fM (aJ aH) s l 0 (dc m+8) (gB key l (dc m) (mS m))->∀(r:TR) (fn:List ai) (F0:aW bO (aR k (cE s'))),jX tg tc k (cE s') F0->mf bO s'.bh r.fv fn->(∀y∈s'.bh,Sd.rJ y)/\s'.bh.length<=10->X s' r fn F0):Ns (aJ aH) tg tc it k s F key l m X:=by
 refine⟨h.cy,key,⟨rfl,hm,hl,h.kj,h.co⟩,?_⟩;rw[qc];intro s' e r fn F0 v1 v2 hf;refine hX s' e r fn F0 ⟨h.tg,h.tc,?_,h.kj,?_,v1,v2⟩ hf ?_
 ·show s'.c.p.queue=k.most;rw[e,Np h.c];exact h.q
 ·rw[e];exact h.c.item _ _ _ _
 ·rw[e];exact Nq h.c _ _ _ _
theorem Nt {X:Prop} (h:jX tg tc k s F) (hX:X):Iu tg tc it k s X:=⟨h.cy,λ_ _ _ _=>hX⟩
theorem mf.mem {l:List (Int×Sd.aE)} {fv:Nat->uO} {fn fB:List ai} (h:mf bO l fv fn) (hm:∀y∈fn,y∈fB):mf bO l fv fB:=λj hj=>by
 obtain⟨x,c,b,h1,h2,h3⟩:=h j hj;exact⟨x,c,b,h1,h2,λy hy=>hm y (h3 y hy)⟩
end
structure AQ (p q:Nat->Int):Prop where
 lo:∀i,i<=4->q i=p i
 r9:q 9=1/\q 13=0
 zI:∀i,10<=i/\i<=12->q i=14
 ag:∀i,14<=i/\i<=33->q i=15
 gr:∀i,34<=i/\i<=38->q i=31
 mo:∀i,39<=i/\i<=41->q i=p i
 ti:∀i,42<=i->i<=46->1<=q i/\q i<=1000
 be:q 47=p 47
 qs:∀i,48<=i->i<=49->1<=q i/\q i<=3
 li:∀i,50<=i/\i<=54->q i=p i
 ep:0<=q 55/\q 55<=65535
theorem AQ.code {x:gp} {p q:Nat->Int} {m:Nat->Nat} (h:AQ p q) (hM:Made x p m) {kn:Nat->Nat} (hk:∀j,j<4->1<=kn j/\kn j<=64):lD q kn=0/\∀ks,Sd.eO ⟨q,ks⟩:=by
 have g:=λi hi=>hM.I.lo i hi;have md:=λ(i:Nat) (m:Int) (h1:0<m) (h2:m<=1000000)=>D9 (x.q i) h1 h2;have nW:nE 14=true:=by decide
 refine acn ?_ ⟨(h.lo 0 (by decide)).trans (g 0 (by decide)),(h.lo 4 (by decide)).trans (g 4 (by decide)),h.r9.1,h.r9.2,(h.li 50 (by decide)).trans (g 50 (by decide))⟩ hk ⟨by rw[h.zI 10 (by decide)];exact nW,by rw[h.zI 11 (by decide)];exact nW,by rw[h.zI 12 (by decide)];exact nW⟩ (λi h1 h2=>by rw[h.ag i ⟨h1,h2⟩];decide) (λi h1 h2=>by rw[h.gr i ⟨h1,h2⟩];decide) ?_ h.ti ?_ h.qs ?_ ?_ h.ep
 ·rw[h.lo 1 (by decide),h.lo 2 (by decide),h.lo 3 (by decide)];exact hM.o.perm
 ·intro i h1 h2;rw[h.mo i ⟨h1,h2⟩,g i (by omega)];have:nQ (p 1) (p 2) (p 3) x.q i=dk (x.q i) 5:=by
   have:i=39\/i=40\/i=41:=by omega
   rcases this with rfl|rfl|rfl<;>rfl
  rw[this];have:=md i 5 (by decide) (by decide);omega
 ·rw[h.be,g 47 (by decide)];have:=md 47 1001 (by decide) (by decide);show 0<=dk (x.q 47) 1001/\dk (x.q 47) 1001<=1000;omega
 ·intro i h1 h2;rw[h.li i (by omega),g i (by omega)];have:nQ (p 1) (p 2) (p 3) x.q i=dk (x.q i) 1001:=by
   have:i=51\/i=52\/i=53:=by omega
   rcases this with rfl|rfl|rfl<;>rfl
  rw[this];have:=md i 1001 (by decide) (by decide);omega
 ·rw[h.li 54 (by decide),g 54 (by decide)];show 1<=i64.wrap (1+dk (x.q 54) 1000)/\i64.wrap (1+dk (x.q 54) 1000)<=1000;rw[one_mod _ (by decide) (by decide)];have:=md 54 1000 (by decide) (by decide);omega
theorem AQ.at {p q q':Nat->Int} (h:AQ p q) (e:∀i,i<56->iJ i=false->q' i=q i):AQ p q' where
 lo i hi:=by rw[e i (by omega) (nR (by omega))];exact h.lo i hi
 r9:=by rw[e 9 (by decide) rfl,e 13 (by decide) rfl];exact h.r9
 zI i hi:=by rw[e i (by omega) (nR (by omega))];exact h.zI i hi
 ag i hi:=by rw[e i (by omega) (nR (by omega))];exact h.ag i hi
 gr i hi:=by rw[e i (by omega) (nR (by omega))];exact h.gr i hi
 mo i hi:=by rw[e i (by omega) (nR (by omega))];exact h.mo i hi
 ti i h1 h2:=by rw[e i (by omega) (nR (by omega))];exact h.ti i h1 h2
 be:=by rw[e 47 (by decide) rfl];exact h.be
 qs i h1 h2:=by rw[e i (by omega) (nR (by omega))];exact h.qs i h1 h2
 li i hi:=by rw[e i (by omega) (nR (by omega))];exact h.li i hi
 ep:=by rw[e 55 (by decide) rfl];exact h.ep
theorem adK {tg tc:aG} {u:ae} {x:gp} {p q:Nat->Int} {m d:Nat->Nat} {n:Nat} {X:(p2:Sd.aN)->(k:LK)->aW bO (aR k (gT p2))->Prop} (hM:Made x p m) (h:AQ p q)
 (hX:∀p2 k F,jX tg tc k (gT p2) F->(∀i,i<56->iJ i=false->p2.i i=q i)->(∀j,j<4->p2.k j=(m j,uR x u j))->(∀j,j<4->1<=m j/\m j<=64)->X p2 k F):VD tg tc u x (jG n q m d) m X:=by
 have hb:∀j,j<4->1<=m j/\m j<=64:=λj hj=>by rw[hM.n j];exact ab5 _
 have ji:∀j,j<4->1<=iX (jG n q m d) j/\iX (jG n q m d) j<=64:=λj hj=>by rw[zk _ _ _ _ hj];exact hb j hj
 have h2:=(h.at (q':=λi=>iN (nth (jG n q m d) i)) (λi h1 h2=>MH n q m d h1 h2)).code hM ji;refine⟨⟨h2.1,λj hj=>?_,λj hj=>⟨(ji j hj).2,?_⟩⟩,λp2 k F hN v1 v2=>?_⟩
 ·rw[zk _ _ _ _ hj]
  match j,hj with
  |0,_=>rfl
  |1,_=>rfl
  |2,_=>rfl
  |3,_=>rfl
  |j+4,h=>exact absurd h (by omega)
 ·rw[zk _ _ _ _ hj,acm _ _ _ _ hj];omega
 ·have hC0:ef k (gT p2):=aco hN (h2.2 _) ji;have he:=hN.eq;refine hX p2 k F ⟨hN.tg,hN.tc,hN.most.symm,hN.kj,hC0,v1,v2⟩ (λi h1 h2=>?_) (λj hj=>?_) hb
  ·rw[he];exact MH n q m d h1 h2
  ·rw[he];show(iX (jG n q m d) j,uR x u j)=_;rw[zk _ _ _ _ hj]
end
section
open Go Go.RowKit Go.BigFrame Sx Vx
def VE (C:Sd.aL):List (bK (LG bO)):=⟨20,false,w9 λ_=>Uf C⟩::⟨21,false,w9 λ_=>Ue C⟩::LBs C
theorem adL:aC prog gS (VE (aJ aH)):=aC.cons (Ml (aqE Eh)) (aC.cons (Ml (aqD Eh)) au4)
def oO (K:V->Prop):Prop:=K (.bool false)
abbrev mV (s:Sd.aa) (l:Int):Sd.aE:=Sd.jW (Sd.eV s.bh l)
def adM (tg tc:aG) (it:Nat) (k:LK) (s:Sd.aa) (F:aW bO (aR k s)) (sv:Sd.aa) (X:(s':Sd.aa)->TR->List ai->aW bO (aR k (cE s'))->Prop):Prop:=xi tg tc it k s/\Nr k s F/\Eo (fr:=bO) (k:=k) sv X
def shP (tg tc:aG):Prop->Prop:=λX=>(false=false/\(lh tg).c=(lh tg).c/\false=false/\(oH tc).c=(oH tc).c)/\X
section
variable(C:Sd.aL) (tg tc:aG) (u:ae) (x:gp) (f:Nat->Nat×Sd.av) (x0 x1:Int) (nw:Bool) (K:V->Prop) (q:Nat->Int) (m d:Nat->Nat)
end
def VF {G:Type} (s:Nat) (g:Nat->Nat):(ba->V)->Op->List VB->List G->VK G->Prop:=λe op bl ch K=>match op with
 |.binOp .rem t (.tmp i) (.const (.int .i64 (.ofNat 3))) t2=>(match e (.tmp i),e (.const (.int .i64 (.ofNat 3)))with
  |.int .i64 n,.int .i64 (.ofNat 3)=>cond (aq i s) (K (.int .i64 (n.tmod 3)) bl ch) (n.tmod 3=cJ (g i)/\K (.int .i64 (cJ (g i))) bl ch)
  |_,_=>False)
 |_=>False
theorem au7 {G:Type} [Bl G] {P:aF} {gl:Nat->Option Nat} {s:Nat} {g:Nat->Nat}:fP (G:=G) P gl (VF s g):=by
 intro e op ids bl ch R ms w0 w K ρ o hg hl S a9 ho h;unfold VF at h;split at h
 ·rename_i t i t2;split at h
  ·rename_i n hx hy;have bG:(execOp ρ o).run P w=.ok (.value (.int .i64 (n.tmod 3))) w:=by
    have hb:E6 P .rem t (e (.tmp i)) (e (.const (.int .i64 (.ofNat 3))))=some (.int .i64 (n.tmod (.ofNat 3))):=by rw[hx,hy];rfl
    unfold execOp;simp only[ho,a9];rw[bx,OI hb];rfl
   cases hs:aq i s with
   |true=>rw[hs]at h;exact⟨_,[],bl,ch,w,.inl (by rw[bG];simp[den]),by simpa using hl,by simpa using S,h⟩
   |false=>
    rw[hs]at h;obtain⟨h0,h⟩:=h;exact⟨_,[],bl,ch,w,.inl (by rw[bG,h0];simp[den]),by simpa using hl,by simpa using S,h⟩
  ·exact h.elim
 ·exact h.elim
def VG (s:Nat) (g:Nat->Nat):(ba->V)->Op->List VB->List (LG bO)->VK (LG bO)->Prop:=λe op bl ch K=>cond (Ni e op) (MT prog e op bl ch K) (cond (Nj e op) (VF s g e op bl ch K) (Nc e op bl ch K))
theorem adN {gl:Nat->Option Nat} {s:Nat} {g:Nat->Nat}:fP prog gl (VG s g):=vU Ni acF (vU Nj au7 adj)
def Iv (r0:Nat) (p:Nat->Int) (i:Nat):Int:=bif aq i 49 then cJ (1+r0)else nY p i
def B9 (r1:Nat) (p:Nat->Int) (i:Nat):Int:=bif aq i 48 then cJ (1+r1)else bif aq i 46 then 1 else nY p i
section
variable(C:Sd.aL) (tg tc:aG) (u:ae) (x:gp) (f:Nat->Nat×Sd.av) (x0 x1 x2:Int) (K:V->Prop) (q:Nat->Int) (m d:Nat->Nat)
def lM (x2:Int):Int:=i64.wrap (1+(i64.wrap x2).tmod 3)
def B_ (it:Nat) (k:LK) (s:Sd.aa) (r:Sd.aE) (l:Int) (b:Bool) (X:Prop):Prop:=
 bif b then cond (r.kind !=130) (oO K) (Iu tg tc it k s (cond (!((eB s.c.ag).on l==true)) (oO K) X))
 else cond (r.kind !=132) (oO K) (cond (r.code !=19) (oO K) (Iu tg tc it k s (cond (!((eB s.c.ag).on l==false)) (oO K) X)))
def VH (bs it:Nat) (r0:Nat) (X:(p2:Sd.aN)->(k:LK)->Sd.aa->Prop):Prop:=VD tg tc u x (jG bs q m d) m λp2 k F=>
 B8 C tg tc it k (gT p2) F (m 0) (m 0+d 0) (uR x u 0) 1 (lM x2) λs1 k1 a1 F1 VI=>B_ tg tc K it k s1 a1 1 true (
 B8 C tg tc it k s1 F1 (m 1) (m 1+d 1) (uR x u 1) 2 (lM x2) λs2 k2 a2 F2 VJ=>B_ tg tc K it k s2 a2 2 (bu 1 r0) (
 B8 C tg tc it k s2 F2 (m 2) (m 2+d 2) (uR x u 2) 3 (lM x2) λs3 k3 a3 F3 VL=>B_ tg tc K it k s3 a3 3 (bu 2 r0) (X p2 k s3)))
def VM (l:Int) (s2 s3:Sd.aa) (b:Bool) (X:Prop):Prop:=
 cond ((mV s2 l).seq !=7) (oO K) (cond ((mV s3 l).seq !=8) (oO K) (cond ((mV s3 l).kind !=132) (oO K) (
 bif b then cond ((mV s2 l).kind !=131) (oO K) (cond ((mV s3 l).code !=27) (oO K) X)
 else cond ((mV s2 l).kind !=132) (oO K) (cond ((mV s2 l).code !=3) (oO K) (cond ((mV s3 l).code !=3) (oO K) X)))))
def Iw (it:Nat) (j:Nat) (l:Int) (b:Bool) (k:LK) (s:Sd.aa) (F:aW bO (aR k s)) (X:(s3:Sd.aa)->aW bO (aR k (cE s3))->Prop):Prop:=
 B8 C tg tc it k s F (m j) (m j+d j) (uR x u j) l (lM x2) λs1 key a1 F1 VI=>
 Ns C tg tc it k s1 F1 key l {Sd.eT 5 with seq:=7} λs2 r2 Is F2=>
 Ns C tg tc it k (cE s2) F2 key l {Sd.eT 5 with seq:=8} λs3 r3 fn3 F3=>
 VM K l s2 s3 b (X s3 F3)
def VN (it:Nat) (r1:Nat):Prop:=VD tg tc u x (jG 4 q m d) m λp2 k F=>
 adM tg tc it k (gT p2) F ((bQ (gT p2)).fO C ⟨true,⟨i64.wrap (q 47+1),0,0,0⟩,false⟩) λs0 r0 fn0 F0=>
 Iw C tg tc u x x2 K m d it 0 1 true k (cE s0) F0 λs1 F1=>
 Iw C tg tc u x x2 K m d it 1 2 (bu 1 r1) k (cE s1) F1 λs2 F2=>
 Iw C tg tc u x x2 K m d it 2 3 (bu 2 r1) k (cE s2) F2 λs3 F3=>
 Iu tg tc it k (cE s3) (cond (s3.c.t.ay==0) (Iu tg tc it k (cE s3) (K (.bool ((s3.c.q.length:Int)==cJ (1+r1))))) (oO K))
def gRo (r0 r1:Nat) (i:Nat):Nat:=bif aq i 33 then r0 else r1
def uY (r0 r1:Nat):Prop:=bo (tv prog gS (VE C) (VG 28 (gRo r0 r1)) adN λ_ _=>none) 60 5 [.agg [.eo ⟨x.q,f⟩ x.ka x.kn x.kc],.agg [.int .u8 x0,.int .u8 x1],.int .u8 x2] [lh tg,oH tc] [.aZ u] (λv _ _=>K v)
def uZ (it r0 r1:Nat):Prop:=shP tg tc ((kM x u 0/\kM x u 1/\kM x u 2/\kM x u 3)/\∀(p:Nat->Int) (m d:Nat->Nat),Made x p m->
 ((i64.wrap x0).tmod 3=cJ r0/\VH C tg tc u x x2 K (Iv r0 p) m d 4 10 r0 λp2 k s3=>
   (i64.wrap x1).tmod 3=cJ r1/\VN C tg tc u x x2 K (B9 r1 p) m d it r1))
end
end
end Go.Proofs.YtggfpcggakghnaaGreatDoor
