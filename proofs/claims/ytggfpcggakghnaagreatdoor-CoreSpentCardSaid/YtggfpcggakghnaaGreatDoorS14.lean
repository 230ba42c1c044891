/- Part 14 of the proof. -/
import Derived.Test.YtggfpcggakghnaaGreatDoorS13
set_option linter.all false
set_option maxRecDepth 100000
set_option maxHeartbeats 4000000
open Go.Proofs.Tryz
open Go.IntKind (u8 u16 u32 u64 i64)
namespace Go.Proofs.YtggfpcggakghnaaGreatDoor
open Go Go.RowKit Go.BigFrame Sx Vx
theorem Vq {q:List Int} (h:∀x∈q,0<=x/\x<=255):By (gT q):=by
 intro j;unfold gT;rw[List.getD_eq_getElem?_getD];cases hq:q[j]?with
 |none=>exact⟨by decide,by decide⟩
 |some x=>exact h x (List.mem_of_getElem? hq)
theorem aaO {m:Sd.bW} (h:lx m):By (oG m):=Vq (by
 intro x hx;unfold jE at hx;rcases List.mem_cons.1 hx with rfl|hx
 ·have:=h.kinds;omega
 ·obtain⟨l,hl,hx⟩:=List.mem_flatten.1 hx;obtain⟨f,_,rfl⟩:=List.mem_map.1 hl;obtain⟨j,_,rfl⟩:=List.mem_map.1 hx;exact fk _ _ _)
theorem aaP {n:Nat} {f g:Nat->Int} (hf:By f) (hg:By g):By (bI n f g):=by
 intro j;unfold bI;cases Nat.blt j n with
 |true=>exact hf j
 |false=>exact hg _
theorem Li (kn:Nat) (kf:Nat->Int) (n:Nat) (d:Nat->Int):By (fA kn kf n d):=by unfold fA;exact J8 _ _
theorem Ov {k:Nat->Int} {s:Int} {n:Nat} {f:Nat->Int} (h:By f):By (cO k s n f):=by unfold cO;exact aaP h (Li _ _ _ _)
theorem ake {r:Int} (h:0<=r/\r<=3):By (f2 1 r):=λj=>by unfold f2;split<;>omega
theorem aaQ {r:Int} (h:0<=r/\r<=3) {p:Nat->Int} (hp:By p):By (Cr r p):=Vq (by
 intro x hx;simp only[List.mem_cons,List.not_mem_nil,or_false]at hx;rcases hx with rfl|rfl|rfl|rfl|rfl|rfl|rfl|rfl|rfl|rfl
 ·omega
 ·omega
 all_goals exact hp _)
theorem aaR {m:Sd.bW} (h:lx m):cR m<=8:=by
 obtain⟨_,⟨h|h,e⟩|⟨h,e⟩|⟨h,_,e⟩|⟨h,_,e⟩|⟨h,_,_,e⟩⟩:=h<;>(unfold cR jE ua;simp only[h,Int.reduceEq,if_true,if_false];simp)
theorem aaS {r:Int} (h:0<=r/\r<=3):Vp r=r:=by
 rcases(by omega:r=0\/r=1\/r=2\/r=3)with rfl|rfl|rfl|rfl<;>decide
theorem mg.app {l:List (Int×Sd.Reply)} {fv:Nat->TQ} {fn:List av} (h:mg eB l fv fn) (fB:List av):mg eB l fv (fn++fB):=λj hj=>by
 obtain⟨x,c,b,h1,h2,h3⟩:=h j hj;exact⟨x,c,b,h1,h2,λy hy=>List.mem_append_left _ (h3 y hy)⟩
theorem Fp {k:LK} {s:Sd.Scene} (h:eo k s) (l code:Int) (n:Nat) (f:Sd.Byt):Sd.l5 (ah aT) False s (cQ (ah aT) s l code n f) 0 l:=by
 unfold cQ;split
 ·rename_i hl;exact Sd.DS ln h.i hl (λe=>e.elim)
 ·exact .cD h.i (Sd.Quiet.refl ..)
theorem Cs {k:LK} {s:Sd.Scene} (h:eo k s) (l code:Int) (n:Nat) (f:Sd.Byt):(cQ (ah aT) s l code n f).c.p=s.c.p:=ajm (Fp h l code n f)
theorem ov {k:LK} {s:Sd.Scene} (h:eo k s) (l code:Int) (n:Nat) (f:Sd.Byt):(∀y∈(cQ (ah aT) s l code n f).sent,Sd.kr y)/\(cQ (ah aT) s l code n f).sent.length<=10:=by
 refine⟨(Fp h l code n f).akd h.e1,?_⟩;have h1:Sd.Gr 10 s (cQ (ah aT) s l code n f):=by
  unfold cQ;split
  ·exact Sd.aaF _ _ _ _ _ _
  ·exact(Sd.Gr.c0 rfl rfl).le (by decide)
 have:=h1.2;rw[h.e1]at this;simpa using this
theorem Vr {k:LK} {s':Sd.Scene} {r:TR} {fB:List av} {l:Int} {X:Sd.Reply->Prop} (hf:mg eB s'.sent r.fv fB) (hs:∀y∈s'.sent,Sd.kr y) (hl:s'.sent.length<=1000) (hX:X (Sd.dr (Sd.aQ s'.sent l))):lrX k s' r fB l X:=
 ⟨s'.sent,r.fv,⟨rfl,rfl,rfl,hs,hl,hf,k.tg,rfl⟩,λrs e x' c' ty us=>⟨rs,⟨rfl,rfl,rfl,by rw[e];have:=Fm s'.sent l;omega⟩,by rw[e];exact hX⟩⟩
theorem af8 {k:LK} {s:Sd.Scene} (h:s.c.p.queue=k.most):ZU k s:=⟨rfl,rfl,rfl,rfl,rfl,h⟩
theorem ls8 (g:Nat->Int):∀j,j<8->gT [g 0,g 1,g 2,g 3,g 4,g 5,g 6,g 7] j=g j:=by
 intro j hj;rcases(by omega:j=0\/j=1\/j=2\/j=3\/j=4\/j=5\/j=6\/j=7)with rfl|rfl|rfl|rfl|rfl|rfl|rfl|rfl<;>rfl
theorem amT (g:Nat->Int):∀j,j<32->gT [g 0,g 1,g 2,g 3,g 4,g 5,g 6,g 7,g 8,g 9,g 10,g 11,g 12,g 13,g 14,g 15,g 16,g 17,g 18,g 19,g 20,g 21,g 22,g 23,g 24,g 25,g 26,g 27,g 28,g 29,g 30,g 31] j=g j:=by
 intro j hj;have e:[g 0,g 1,g 2,g 3,g 4,g 5,g 6,g 7,g 8,g 9,g 10,g 11,g 12,g 13,g 14,g 15,g 16,g 17,g 18,g 19,g 20,g 21,g 22,g 23,g 24,g 25,g 26,g 27,g 28,g 29,g 30,g 31]=(List.range 32).map g:=rfl;rw[e];exact iU hj
section
variable{k:LK} {s:Sd.Scene} {F:bN eB (bA k s)} {u:World} {fB:List av} {kf:Nat->Int} {l r:Int} {m:Sd.bW} {K:VK (LG eB)} {wr:Bool} {n c:Nat} {f:Sd.Byt} {us:List Value}
theorem akf (hC:eo k s) (v1:cC=F.vs) (v2:cC=F.vr) (hN:j4 k) (hq:s.c.p.queue=k.most) (hl:1<=l/\l<=3) (hm:lx m)
 (hK:∀s',s'=cQ (ah aT) s l 0 (cR m+8) (cO kf l (cR m) (oG m))->∀(r:TR) (fn:List av) (F0:bN eB (bA k (fS s'))),cC=F0.vs->cC=F0.vr->mg eB s'.sent r.fv fn->K (.az [r.v s' 4,.agg (iD (Sd.dr (Sd.aQ s'.sent l)))]) (fV k (fS s')++[r.sB s',r.rB s']) [.cn u,.core (cB k (fS s') F0) (fn++fB)]):
 syX (ah aT) k s F u fB kf l m K:=by
 have hn:=aaR hm;refine⟨hm,λd us=>⟨kf,⟨rfl,by omega,by omega,rfl,amT kf,k.tg,rfl⟩,λd=>⟨af8 hq,⟨rfl,rfl,rfl⟩,hN,⟨by rw[iB];exact hC,v1,v2,by omega,Ov (aaO hm)⟩,?_⟩⟩⟩;rw[iB];intro s' hs r fn F0 w1 w2 hf;have hI:=ov hC l 0 (cR m+8) (cO kf l (cR m) (oG m));rw[<-hs]at hI;exact Vr (hf.app fB) hI.1 (by have:=hI.2;omega) (hK s' hs r fn F0 w1 w2 hf)
theorem akg (hC:eo k s) (v1:cC=F.vs) (v2:cC=F.vr) (hN:j4 k) (hq:s.c.p.queue=k.most) (hl:1<=l/\l<=3) (hr:0<=r/\r<=3) (hc:n<=c) (hn:1<=n/\n<=64) (Fq:(Sd.dr (Sd.aQ (cQ (ah aT) s l 0 2 (f2 1 r)).sent l)).kind=129)
 (hK:∀s' key rep,(s',key,rep)=uX (ah aT) s l r n f->∀(F':bN eB (bA k s')) (vI:List av),cC=F'.vs->cC=F'.vr->K (.az [.agg (ints 32 key),.agg (iD rep)]) (fV k s'++[yv wr n f us]) [.cn u,.core (cB k s' F') vI]):etX (ah aT) k s F u fB wr n f us c l r K:=by
 unfold etX;dsimp only;rw[iB,aaS hr];refine⟨af8 hq,⟨rfl,rfl,rfl⟩,hN,⟨by rw[iB];exact hC,v1,v2,by decide,ake hr⟩,?_⟩;intro s1 sE r1 fn1 F1 w1 w2 WY;have hC1:eo k (fS s1):=by rw[sE];exact hC.item _ _ _ _
 have hp1:s1.c.p=s.c.p:=by rw[sE];exact Cs hC _ _ _ _
 have hI:=ov hC l 0 2 (f2 1 r);rw[<-sE]at hI;rw[<-sE]at Fq;refine Vr (WY.app fB) hI.1 (by have:=hI.2;omega) (aU (λe=>?_) (λe=>?_))
 ·rw[Fq]at e;cases e
 ·have e1:(Sd.dr (Sd.aQ s1.sent l)).kind=129:=by simpa using e
  have sp:af6 k n c l r (Sd.dr (Sd.aQ s1.sent l)) (Sd.dr (Sd.aQ s1.sent l)).ae:=⟨⟨rfl,hc,hn⟩,by omega,by omega,rfl,ls8 _,k.tg,rfl⟩;refine⟨_,sp,λd=>⟨af8 (by show s1.c.p.queue=k.most;rw[hp1];exact hq),⟨rfl,rfl,rfl⟩,hN,⟨by rw[iB];exact hC1,w1,w2,by decide,aaQ hr (Li _ _ _ _)⟩,?_⟩⟩;rw[iB];intro s2 Wk r2 fn2 F2 z1 z2 WZ;have hI2:=ov hC1 l 0 10 (Cr r (eF n f l r (Sd.dr (Sd.aQ s1.sent l)).ae));rw[<-Wk]at hI2;refine⟨_,sp,Vr (WZ.app _) hI2.1 (by have:=hI2.2;omega) (hK (fS s2) _ _ ?_ F2 _ z1 z2)⟩;unfold uX;dsimp only;rw[<-sE,if_pos e1,<-Wk]
end
def IX (C:Sd.Crypt):World->LM eB:=λu ar k s F K=>match ar with
 |[.agg kl,.int .i64 l,.agg ml]=>(match DU ml with
  |some m=>∃kf:Nat->Int,(kl=ints 32 kf/\lx m/\(1<=l/\l<=3)/\j4 k/\(eo k s/\cC=F.vs/\cC=F.vr))/\
   Vn (fr:=eB) (k:=k) (cQ C s l 0 (cR m+8) (cO kf l (cR m) (oG m))) λs' r fn F0=>K (.az [r.v s' 0,.agg (iD (Sd.dr (Sd.aQ s'.sent l)))]) (fS s') F0 fn [r.sB s',r.rB s']
  |none=>False)
 |_=>False
theorem Lj (a b:Nat):Gl gS (ck a b):=by
 intro g i iX;unfold gS at iX;split at iX
 ·obtain rfl:=Option.some.inj iX;exact⟨by simp,rfl⟩
 ·obtain rfl:=Option.some.inj iX;exact⟨by simp,rfl⟩
 ·cases iX
theorem Ow:rZ (fr:=eB) 18 (IX (ah aT)):=by
 intro u ar k s F Kb a b R ms w0 w h0 hq hM S;unfold IX at hM;split at hM
 ·rename_i kl l ml;split at hM
  ·rename_i m hm;obtain rfl:=n8 hm;obtain⟨kf,⟨rfl,hp,hl,hN,hC,v1,v2⟩,hT⟩:=hM
   let K:VK (LG eB):=λv bl ch=>∃(s':Sd.Scene) (F0:bN eB (bA k (fS s'))) (r:TR) (fn:List av),v=.az [r.v s' 4,.agg (iD (Sd.dr (Sd.aQ s'.sent l)))]/\bl=fV k (fS s')++[r.sB s',r.rB s']/\ch=[.cn u,.core (cB k (fS s') F0) (fn++[])]/\Kb (.az [r.v s' 0,.agg (iD (Sd.dr (Sd.aQ s'.sent l)))]) (fS s') F0 fn [r.sB s',r.rB s']
   have fU:cJ (yr prog gS (aaL (ah aT)) V_ mr λ_ _=>none) 60 18 [.ptr 2 0,.agg (ints 32 kf),.int .i64 l,.agg (cw m)] (fV k s) [.cn u,.core (cB k s F) []] (cP 4 K):=by
    rw[aj_];exact akf hC v1 v2 hN hq hl hp λs' e r fn F0 z1 z2 hf=>⟨s',F0,r,fn,rfl,rfl,rfl,hT s' e r fn F0 z1 z2 hf⟩
   refine(bw Lg.T Lg.Q 60 (C:=yr prog gS (aaL (ah aT)) V_ mr λ_ _=>none) (ids:=ck a b) (bl:=fV k s) (ch:=[.cn u,.core (cB k s F) []]) (R:=R) (ms:=ms) (w0:=w0) (w:=w) (Lj a b) rfl (by
    refine S.perm ?_;show List.Perm _ (_++(du u++((F.B++[])++R)));exact cj λf=>by simp only[List.countP_append,List.countP_nil];omega) fU).mono ?_
   rintro v w' ⟨x,more,bl',ch',rfl,h1,S',hK⟩;obtain⟨v2',aP,bl2,hv,gx,S2,s',F0,r,fn,rfl,rfl,rfl,hKb⟩:=c9 (n0:=4) h1 (by simp) S' hK;have ht4:(ck a b++more).take 4=ck a b:=rfl;rw[ht4]at hv gx S2;have eR:af [LG.cn u,LG.core (cB k (fS s') F0) (fn++[])] R=du u++((F0.B++(fn++[]))++R):=rfl;rw[eR]at S2;rw[hv]
   match aP,gx with
   |[i1,i2],_=>
    refine⟨_,_,F0,fn,_,[i1,i2],rfl,?_,rfl,hKb,?_⟩
    ·simp only[TR.v,TT,den,ao,ab,cl,List.append_nil];rfl
    ·have e2:lits (ck a b++[i1,i2]) (ck a b++[i1,i2]) (fV k (fS s')++[r.sB s',r.rB s'])=lits (ck a b) (ck a b) (fV k (fS s'))++lits [i1,i2] [i1,i2] [r.sB s',r.rB s']:=by
      rw[aI _ _ _ _ rfl,aJ (ids:=ck a b) (more:=[i1,i2]) (ck a b) (fV k (fS s')) rfl,fc (ids':=[i1,i2]) [i1,i2] _ rfl]
     rw[e2]at S2;exact S2.perm (cj λf=>by simp only[List.countP_append,List.countP_nil];omega)
   |[],h=>simp[fV]at h
   |[_],h=>simp[fV]at h
   |_::_::_::_,h=>simp[fV]at h
  ·exact hM.elim
 ·exact hM.elim
def af9 (C:Sd.Crypt):gm (LG eB):=λargs bl ch K=>match args,ch with
 |[.ptr ic 0,.sl ip 0 n c,.int .i64 l,.int .i64 r],.cn u::.core g fB::rest=>(match IQ bl (.sl ip 0 n c)with
  |some (_,n',f)=>(match bl[ic]?with
   |some ⟨true,⟨105,(0,0)⟩,cc⟩=>(match w6 cc with
    |some x=>(match bl[x.it]?with
     |some ⟨true,⟨157,(0,0)⟩,tc⟩=>(match uR tc with
      |some y=>cond (dk bl.length bl&&(Nat.blt 1 ip&&(Nat.blt 1 ic&&(Nat.blt 1 x.it&&(!(Nat.beq ic x.it)&&(!(Nat.beq ic ip)&&!(Nat.beq x.it ip)))))))
       ((bl[0]?=some (aG g.d.k)/\bl[1]?=some (iA g.d.k)/\x=Cz g.d.k x.it (lP x y g.d g.dx g.sx)/\y.b=x.p.bh/\y.m=x.p.aR/\x.p.queue=g.d.k.most)/\
         (n=n'/\n<=c/\(1<=n/\n<=64))/\j4 g.d.k/\(eo g.d.k (lP x y g.d g.dx g.sx)/\cC=g.F.vs/\cC=g.F.vr)/\(((1<=l/\l<=3)/\0<=r/\r<=3)/\(Sd.dr (Sd.aQ (cQ C (lP x y g.d g.dx g.sx) l 0 2 (f2 1 r)).sent l)).kind=129)/\
         ∀(s':Sd.Scene) (key:Sd.Byt) (rep:Sd.Reply),(s',key,rep)=uX C (lP x y g.d g.dx g.sx) l r n f->∀(F':bN eB (bA g.d.k s')) (vI:List av),cC=F'.vs->cC=F'.vr->
          K (.az [.agg (ints 32 key),.agg (iD rep)]) (eA bl ic x.it g.d.k s') (.cn u::.core (cB g.d.k s' F') vI::rest)) False
      |none=>False)
     |_=>False)
    |none=>False)
   |_=>False)
  |none=>False)
 |_,_=>False
theorem aaT (a b c:Nat):Gl gS (ck a b++[c]):=(Lj a b).app [c]
theorem af_ {ids:List Nat} {bl:List VB} {k:LK} {s:Sd.Scene} {F:bN eB (bA k s)} {u:World} {fB:List av} {rest:List (LG eB)} {R:List av} {ms:List Nat} {w0 w:World} {ic it ip n c:Nat} {wr:Bool} {f:Sd.Byt} {rs:List V} {l r:Int} {K:VK (LG eB)}
 (hg:Gl gS ids) (hl:ids.length=bl.length) (S:St ms w0 (lits ids ids bl++af (.cn u::.core (cB k s F) fB::rest) R) w) (H:H9 bl ic it k s) (ZT:bl[ip]?=some ⟨wr,⟨5,(0,0)⟩,.dC .u8 n f::rs⟩) (qw:dk bl.length bl=true) (q1:1<ip) (q2:1<ic) (q3:1<it) (n4:ic≠it) (n5:ic≠ip) (n6:it≠ip)
 (hC:eo k s) (v1:cC=F.vs) (v2:cC=F.vr) (Zo:j4 k) (hqm:s.c.p.queue=k.most) (hl3:1<=l/\l<=3) (hr3:0<=r/\r<=3) (IT:n<=c) (hn:1<=n/\n<=64) (Fq:(Sd.dr (Sd.aQ (cQ (ah aT) s l 0 2 (f2 1 r)).sent l)).kind=129)
 (hK:∀s' key rep,(s',key,rep)=uX (ah aT) s l r n f->∀(F':bN eB (bA k s')) (vI:List av),cC=F'.vs->cC=F'.vr->K (.az [.agg (ints 32 key),.agg (iD rep)]) (eA bl ic it k s') (.cn u::.core (cB k s' F') vI::rest)):
 aj prog 13 (ao ids [.ptr ic 0,.sl ip 0 n c,.int .i64 l,.int .i64 r]).toArray w λv w'=>∃x more bl' ch',v=den (ids++more) x/\(ids++more).length=bl'.length/\St ms w0 (lits (ids++more) (ids++more) bl'++af ch' R) w'/\K x bl' ch':=by
 have l1:=bO ZT;have l2:=bO H.hc;have l3:=bO H.ht;obtain⟨r',hr,hp⟩:=ux (bl:=bl) (ids:=ids) hl (is:=[0,1,ic,it,ip]) (by simp;omega) (by
  intro i hi;simp only[List.mem_cons,List.not_mem_nil,or_false]at hi;rcases hi with rfl|rfl|rfl|rfl|rfl<;>omega)
 have emp:∀(bl':List VB),[0,1,ic,it,ip].map (λj=>aE ids (ids.getD j 0) (bl'.getD j gK))=([0,1,ic,it].map λj=>aE ids (ids.getD j 0) (bl'.getD j gK))++[aE ids (ids.getD ip 0) (bl'.getD ip gK)]:=λ_=>rfl;generalize hI:ck (ids.getD ic 0) (ids.getD it 0)=I at*;have hI4:I.length=4:=by rw[<-hI];rfl
 have TX:aE ids (ids.getD ip 0) ⟨wr,⟨5,(0,0)⟩,.dC .u8 n f::rs⟩=aE [] (ids.getD ip 0) (yv wr n f (ab ids rs)):=by
  unfold aE yv;simp only[ab,cl,List.append_nil]
 have dP:=hp bl rfl;rw[emp,lv H hg,cG ZT,hI]at dP;have akh:∀s':Sd.Scene,lits (I++[ids.getD ip 0]) (I++[ids.getD ip 0]) (fV k s'++[yv wr n f (ab ids rs)])=lits I I (fV k s')++[aE [] (ids.getD ip 0) (yv wr n f (ab ids rs))]:=λs'=>by
  rw[aI _ _ _ _ (by rw[hI4];rfl),aJ (ids:=I) (more:=[ids.getD ip 0]) _ (fV k s') (by rw[hI4];rfl),fc (ids':=[]) [ids.getD ip 0] [yv wr n f (ab ids rs)] rfl];rfl
 have S1:St ms w0 (lits (I++[ids.getD ip 0]) (I++[ids.getD ip 0]) (fV k s++[yv wr n f (ab ids rs)])++af [LG.cn u,LG.core (cB k s F) fB] ((r'.map λj=>aE ids (ids.getD j 0) (bl.getD j gK))++af rest R)) w:=S.perm (by
  refine(dP.append_right _).trans ?_;rw[akh,<-TX];show(_++(du u++((F.B++fB)++af rest R))).Perm (_++(du u++((F.B++fB)++((r'.map λj=>aE ids (ids.getD j 0) (bl.getD j gK))++af rest R))));exact cj λf=>by simp only[List.countP_append];omega)
 have fU:cJ (yr prog gS (aaM (ah aT)) V_ mr λ_ _=>none) 60 13 [.ptr 2 0,.sl 4 0 n c,.int .i64 l,.int .i64 r] (fV k s++[yv wr n f (ab ids rs)]) [.cn u,.core (cB k s F) fB] (cP 5 λv b c=>∃(s':Sd.Scene) (key:Sd.Byt) (rep:Sd.Reply) (F':bN eB (bA k s')) (vI:List av),(s',key,rep)=uX (ah aT) s l r n f/\cC=F'.vs/\cC=F'.vr/\v=.az [.agg (ints 32 key),.agg (iD rep)]/\b=fV k s'++[yv wr n f (ab ids rs)]/\c=[.cn u,.core (cB k s' F') vI]):=by
  rw[aka];exact akg hC v1 v2 Zo hqm hl3 hr3 IT hn Fq λs' key rep e F' vI z1 z2=>⟨s',key,rep,F',vI,e,z1,z2,rfl,rfl,rfl⟩
 have a9:ao ids [.ptr ic 0,.sl ip 0 n c,.int .i64 l,.int .i64 r]=ao (I++[ids.getD ip 0]) [.ptr 2 0,.sl 4 0 n c,.int .i64 l,.int .i64 r]:=by rw[<-hI];rfl
 rw[a9];refine(bw Lh.T Lh.Q 60 (C:=yr prog gS (aaM (ah aT)) V_ mr λ_ _=>none) (by rw[<-hI];exact aaT _ _ _) (by rw[List.length_append,hI4];rfl) S1 fU).mono ?_;rintro v w' ⟨xv,more,bl',ch',rfl,h1,S',Qo⟩;obtain⟨v2',aP,bl2,hv,gx,S2,s',key,rep,F',vI,amU,z1,z2,rfl,rfl,rfl⟩:=c9 (n0:=5) h1 (by rw[List.length_append,List.length_append,hI4];simp) S' Qo;have ht5:(I++[ids.getD ip 0]++more).take 5=I++[ids.getD ip 0]:=by rw[<-hI];rfl
 rw[ht5]at hv gx S2;have hm2:aP=[]:=by
  have:(I++[ids.getD ip 0]++aP).length=5:=gx;rw[List.length_append,List.length_append,hI4]at this;simp at this;exact this
 subst hm2;rw[List.append_nil,akh]at S2;refine⟨.az [.agg (ints 32 key),.agg (iD rep)],[],eA bl ic it k s',.cn u::.core (cB k s' F') vI::rest,?_,?_,?_,hK s' key rep amU F' vI z1 z2⟩
 ·rw[hv];simp only[den,ao,List.append_nil,iS];rfl
 ·simp[eA,hl]
 ·have H':=xO H q2 q3 n4 s';have gy:=hp (eA bl ic it k s') (by simp[eA]);have SS:(eA bl ic it k s').getD ip gK=⟨wr,⟨5,(0,0)⟩,.dC .u8 n f::rs⟩:=by
   have:(eA bl ic it k s')[ip]?=some ⟨wr,⟨5,(0,0)⟩,.dC .u8 n f::rs⟩:=by
    unfold eA;rw[eG n6,eG n5];exact ZT
   exact cG this
  rw[emp,lv H' hg,SS,hI]at gy;have w8:(r'.map λj=>aE ids (ids.getD j 0) ((eA bl ic it k s').getD j gK))=r'.map λj=>aE ids (ids.getD j 0) (bl.getD j gK):=by
   unfold eA;refine pU ?_;intro j hj;have:=hr j hj;simp only[List.mem_cons,List.not_mem_nil,or_false,not_or]at this;omega
  rw[w8]at gy;rw[List.append_nil];rw[<-TX]at S2;refine S2.perm ?_;show List.Perm ((_++_)++(du u++((F'.B++vI)++((r'.map λj=>aE ids (ids.getD j 0) (bl.getD j gK))++af rest R)))) (lits ids ids (eA bl ic it k s')++(du u++((F'.B++vI)++af rest R)));refine List.Perm.trans ?_ (gy.symm.append_right _);exact cj λf=>by simp only[List.countP_append];omega
theorem Ox:Sound prog gS 13 (af9 (ah aT)):=by
 intro args ids bl ch R ms w0 w K hg hl S hc;unfold af9 at hc;split at hc
 ·rename_i ic ip n c l r u g fB rest;split at hc
  ·rename_i nc n' f sP;split at hc
   ·rename_i cc OG;split at hc
    ·rename_i x hx;split at hc
     ·rename_i tc VW;split at hc
      ·rename_i y hy;cases hq:dk bl.length bl&&(Nat.blt 1 ip&&(Nat.blt 1 ic&&(Nat.blt 1 x.it&&(!(Nat.beq ic x.it)&&(!(Nat.beq ic ip)&&!(Nat.beq x.it ip))))))with
       |false=>rw[hq]at hc;exact hc.elim
       |true=>
        rw[hq]at hc;simp only[Bool.and_eq_true,Bool.not_eq_true',Nat.blt_eq]at hq;obtain⟨qw,q1,q2,q3,q4,q5,q6⟩:=hq;have nb:∀{a b:Nat},Nat.beq a b=false->a≠b:=λh e=>by rw[e,Nat.beq_refl]at h;cases h
        obtain⟨⟨e3,e4,e5,e6,e7,e8⟩,⟨rfl,IT,hn⟩,Zo,⟨hC,v1,v2⟩,⟨⟨hl3,hr3⟩,Fq⟩,hK⟩:=hc;obtain rfl:=nv hx;obtain rfl:=jz hy;have H:H9 bl ic x.it g.d.k (lP x y g.d g.dx g.sx):=by
         refine⟨e3,e4,?_,?_⟩
         ·rw[OG];congr 1;unfold ew;rw[<-e5]
         ·rw[VW];congr 1;unfold gP;have:y=VV (lP x y g.d g.dx g.sx):=by
           obtain⟨y1,y2,y3,y4,y5,y6,y7,y8⟩:=y;simp only at e6 e7;subst e6 e7;rfl
          rw[<-this]
        obtain⟨wr,rs,ZT⟩:∃wr rs,bl[ip]?=some ⟨wr,⟨5,(0,0)⟩,.dC .u8 n f::rs⟩:=by
         unfold IQ at sP;split at sP
         ·rename_i i n1 c1 hsl;cases hsl;split at sP
          ·rename_i wr n2 f2 r hb;cases sP;exact⟨wr,r,hb⟩
          ·cases sP
         ·cases sP
        exact af_ (k:=g.d.k) (s:=lP x y g.d g.dx g.sx) (F:=g.F) hg hl S H ZT qw q1 q2 q3 (nb q4) (nb q5) (nb q6) hC v1 v2 Zo e8 hl3 hr3 IT hn Fq hK
      ·exact hc.elim
     ·exact hc.elim
    ·exact hc.elim
   ·exact hc.elim
  ·exact hc.elim
 ·exact hc.elim
variable{fr:Sd.Reply->Nat×Sd.Byt}
def ub (p:Nat->Int) (i:Nat):Int:=
 bif Nat.ble i 13 then(bif Nat.beq i 9 then 1 else bif Nat.beq i 13 then 0 else bif Nat.ble 10 i then 14 else p i)
 else bif Nat.ble i 33 then 15 else bif Nat.ble i 38 then 31
 else bif Nat.beq i 42||(Nat.beq i 44||Nat.beq i 45)then 900 else bif Nat.beq i 48||Nat.beq i 49 then 3 else bif Nat.beq i 55 then(p 55).tmod 60000 else p i
def aki (x:ij) (u:World) (K:VK (LG fr)):Prop:=(zR x u 0/\zR x u 1/\zR x u 2/\zR x u 3)/\∀(p:Nat->Int) (n d:Nat->Nat),Made x p n->
 K (.agg (ao5 (ub p) n d)) [dF (n 0) (d 0) (zQ (x.kn 0) (ft u (x.ka 0))),dF (n 1) (d 1) (zQ (x.kn 1) (ft u (x.ka 1))),dF (n 2) (d 2) (zQ (x.kn 2) (ft u (x.ka 2))),dF (n 3) (d 3) (zQ (x.kn 3) (ft u (x.ka 3)))] [.cn u]
def aga (fr:Sd.Reply->Nat×Sd.Byt):List (dI (LG fr)):=[⟨10,false,T8⟩]
theorem Lk:ai prog gv (aga fr):=ai.cons ⟨tT,λe=>by cases e⟩ ai.nil
theorem agb (x:ij) (f:Nat->Nat×Sd.Byt) (u:World) (K:VK (LG fr)):cJ (dR prog gv (aga fr)) 60 17 [.agg [.j8 ⟨x.q,f⟩ x.ka x.kn x.kc]] [] [.cn u] (cP 0 K)=aki x u K:=by kernel_rfl
def agc:gm (LG fr):=λargs bl ch K=>match args,ch with
 |[.agg l],.cn u::rest=>(match KE l with
  |some x=>cond (dk bl.length bl) (aki x u λv b c=>K (qf bl.length v) (bl++ZO bl.length b) (c++rest)) False
  |none=>False)
 |_,_=>False
theorem Oy {gl:Nat->Option Nat}:Sound prog gl 17 (agc (fr:=fr)):=by
 intro args ids bl ch R ms w0 w K hg hl S hc;unfold agc at hc;split at hc
 ·rename_i l u rest;split at hc
  ·rename_i x hx;cases hq:dk bl.length bl with
   |false=>rw[hq]at hc;exact hc.elim
   |true=>
    rw[hq]at hc;refine KC (C:=dR prog gv (aga fr)) (n:=60) (args':=[.agg [.j8 ⟨x.q,λ_=>(0,λ_=>0)⟩ x.ka x.kn x.kc]]) (ch0:=[.cn u]) (rest:=rest) Lk.T Lk.Q rfl hl hq ?_ S (by rw[agb];exact hc);simp only[ao,den,EU hx (λ_=>(0,λ_=>0)) ids,ab,cl,List.append_nil]
  ·exact hc.elim
 ·exact hc.elim
theorem Fs:Sound prog gS 14 (siC (fr:=eB)):=by
 intro args ids bl ch R ms w0 w K hg hl S hc;have key:V7 (λ_=>Cd) args bl ch λv b c=>∃ex,b=bl++ex/\(∀Y,af c Y=af ch Y)/\K v (bl++ex) ch:=by
  unfold siC at hc;unfold V7;split at hc
  ·rename_i ic u g fB rest;split at hc
   ·rename_i cc OG;try simp only[OG]
    split at hc
    ·rename_i x hx;try simp only[hx]
     split at hc
     ·rename_i tc VW;try simp only[VW]
      split at hc
      ·rename_i y hy;try simp only[hy]
       cases hq:dk bl.length bl&&(Nat.blt 1 ic&&(Nat.blt 1 x.it&&!(Nat.beq ic x.it)))with
       |false=>rw[hq]at hc;exact hc.elim
       |true=>
        rw[hq]at hc;obtain⟨⟨e3,e4,e5,e6,e7,e8⟩,hK⟩:=hc;simp only[cH,Bool.true_and,cond_true];refine⟨⟨e3,e4,e5,e6,e7,e8⟩,λz c ty us=>?_⟩;have AD:bl[ic]?=some (ew g.d.k x.it (lP x y g.d g.dx g.sx)):=by
         rw[OG,nv hx];congr 1;unfold ew;rw[<-e5]
        have va:bl[x.it]?=some (gP (lP x y g.d g.dx g.sx)):=by
         rw[VW,jz hy];congr 1;unfold gP;have:y=VV (lP x y g.d g.dx g.sx):=by
          obtain⟨y1,y2,y3,y4,y5,y6,y7,y8⟩:=y;simp only at e6 e7;subst e6 e7;rfl
         rw[<-this]
        have hs:eA bl ic x.it g.d.k (lP x y g.d g.dx g.sx)=bl:=by
         unfold eA;rw[E4 AD,E4 va]
        exact⟨_,congrArg (·++_) hs,λY=>rfl,hK z c ty us⟩
      ·exact hc.elim
     ·exact hc.elim
    ·exact hc.elim
   ·exact hc.elim
  ·exact hc.elim
 refine(EN (xT iC) args ids bl ch R ms w0 w _ hg hl S key).mono ?_;rintro v w' ⟨x,more,bl',ch',hv,h1,S',ex,rfl,hn,hK⟩;exact⟨x,more,_,ch,hv,h1,by rw[hn]at S';exact S',hK⟩
def LBs (C:Sd.Crypt):List (dI (LG eB)):=[⟨9,false,shC⟩,⟨17,false,agc⟩,⟨11,false,Z3⟩,⟨13,false,af9 C⟩,⟨18,false,V7 (IX C)⟩,⟨14,true,siC⟩,⟨19,true,yn⟩]
theorem xR:ai prog gS (LBs (ah aT)):=
 have n:∀{c:gm (LG eB)},(false=true->cT c):=λe=>by cases e
 ai.cons ⟨N1 iC,n⟩ (ai.cons ⟨Oy,n⟩ (ai.cons ⟨xX,n⟩ (ai.cons ⟨Ox,n⟩ (ai.cons (xP Ow) (ai.cons ⟨Fs,λ_=>Iq⟩ (ai.cons ⟨qa,λ_=>qb⟩ ai.nil))))))
section
variable(C:Sd.Crypt) (tg tc:TypeId) (it:Nat)
def nwP (u:World) (x:ij) (L:List V) (m:Nat->Nat) (X:(p2:Sd.Pol)->(k:LK)->bN eB (bA k (ib p2))->Prop):Prop:=EX L (n4 m)/\∀(p2:Sd.Pol) (k:LK) (F:bN eB (bA k (ib p2))),Uk L (xZ x u) tg tc p2 k->cC=F.vs->cC=F.vr->X p2 k F
variable(k:LK) (s:Sd.Scene) (F:bN eB (bA k s))
def CoY:Prop:=eo k (dv s)/\cC=F.vs/\cC=F.vr
def Oz (n c:Nat) (f:Sd.Byt) (l r:Int) (X:(s':Sd.Scene)->Sd.Byt->Sd.Reply->bN eB (bA k s')->List av->Prop):Prop:=
 EY tg tc it k s/\(n=n/\n<=c/\(1<=n/\n<=64))/\j4 k/\CoY k s F/\(((1<=l/\l<=3)/\0<=r/\r<=3)/\(Sd.dr (Sd.aQ (cQ C (dv s) l 0 2 (f2 1 r)).sent l)).kind=129)/\∀s' key rep,(s',key,rep)=uX C (dv s) l r n f->∀(F':bN eB (bA k s')) (vI:List av),cC=F'.vs->cC=F'.vr->X s' key rep F' vI
def Ct (key:Sd.Byt) (l:Int) (m:Sd.bW) (X:(s':Sd.Scene)->TR->List av->bN eB (bA k (fS s'))->Prop):Prop:=
 EY tg tc it k s/\∃kf:Nat->Int,(ints 32 key=ints 32 kf/\lx m/\(1<=l/\l<=3)/\j4 k/\CoY k s F)/\Vn (fr:=eB) (k:=k) (cQ C (dv s) l 0 (cR m+8) (cO kf l (cR m) (oG m))) X
def aaU (X:Prop):Prop:=EY tg tc it k s/\∀(z:Option Addr) (c ty:Nat) (us:List Value),X
end
def Vs {G:Type} (g:Nat->Nat):(Operand->V)->Op->List VB->List G->VK G->Prop:=λe op bl ch K=>match op with
 |.binOp .rem t (.tmp i) (.const (.int .i64 (.ofNat 3))) t2=>(match e (.tmp i),e (.const (.int .i64 (.ofNat 3)))with
  |.int .i64 n,.int .i64 (.ofNat 3)=>n.tmod 3=Int.ofNat (g i)/\K (.int .i64 (Int.ofNat (g i))) bl ch
  |_,_=>False)
 |_=>False
theorem Vt {G:Type} [Bl G] {P:Program} {gl:Nat->Option Nat} {g:Nat->Nat}:oA (G:=G) P gl (Vs g):=by
 intro e op ids bl ch R ms w0 w K ρ o hg hl S cx ho h;unfold Vs at h;split at h
 ·rename_i t i t2;split at h
  ·rename_i n hx hy;obtain⟨h0,h⟩:=h;have aY:(execOp ρ o).run P w=.ok (.value (.int .i64 (n.tmod 3))) w:=by
    have hb:v3 P .rem t (e (.tmp i)) (e (.const (.int .i64 (.ofNat 3))))=some (.int .i64 (n.tmod (.ofNat 3))):=by rw[hx,hy];rfl
    unfold execOp;simp only[ho,cx];rw[Sem.run_bind,sU hb];rfl
   exact⟨_,[],bl,ch,w,.inl (by rw[aY,h0];simp[den]),by simpa using hl,by simpa using S,h⟩
  ·exact h.elim
 ·exact h.elim
def hkB (g:Nat->Nat):(Operand->V)->Op->List VB->List (LG eB)->VK (LG eB)->Prop:=λe op bl ch K=>cond (aaH e op) (aab prog e op bl ch K) (cond (Lf e op) (Vs g e op bl ch K) (aaC e op bl ch K))
theorem Vu {gl:Nat->Option Nat} {g:Nat->Nat}:oA prog gl (hkB g):=lO aaH KV (lO Lf Vt Lc)
theorem czT {b:Bool} {X Y:Prop} (h:b=true) (k:X):cond b X Y:=by rw[h];exact k
theorem CB {b:Bool} {X Y:Prop} (h:b=false) (k:Y):cond b X Y:=by rw[h];exact k
section
variable{tg tc:TypeId} {it:Nat} {k:LK} {s:Sd.Scene} {F:bN eB (bA k s)} {l r:Int}
theorem Vv {n:Nat} {f:Sd.Byt} {s':Sd.Scene} {key:Sd.Byt} {rep:Sd.Reply} (h:eo k s) (e:(s',key,rep)=uX (ah aT) s l r n f):eo k s'/\s'.c.p=s.c.p:=by
 unfold uX at e;dsimp only at e;have h1:=h.item l 0 2 (f2 1 r);have p1:=Cs h l 0 2 (f2 1 r);split at e
 ·simp only[Prod.mk.injEq]at e;obtain⟨rfl,_,_⟩:=e;exact⟨h1.item _ _ _ _,(Cs h1 _ _ _ _).trans p1⟩
 ·simp only[Prod.mk.injEq]at e;obtain⟨rfl,_,_⟩:=e;exact⟨h1,p1⟩
structure Fu (tg tc:TypeId) (k:LK) (s:Sd.Scene) (F:bN eB (bA k s)):Prop where
 tg:k.tg=tg
 tc:k.tc=tc
 q:s.c.p.queue=k.most
 zF:j4 k
 c:eo k s
 v1:cC=F.vs
 v2:cC=F.vr
theorem Fu.co (h:Fu tg tc k s F):CoY k s F:=⟨by rw[iB];exact h.c,h.v1,h.v2⟩
theorem Fu.eY (h:Fu tg tc k s F):EY tg tc it k s:=UC h.tg h.tc h.q
theorem Vw {n c:Nat} {f:Sd.Byt} {X:(s':Sd.Scene)->Sd.Byt->Sd.Reply->bN eB (bA k s')->List av->Prop} (h:Fu tg tc k s F) (hc:n<=c) (hn:1<=n/\n<=64) (hl:1<=l/\l<=3) (hr:0<=r/\r<=3) (Fq:(Sd.dr (Sd.aQ (cQ (ah aT) s l 0 2 (f2 1 r)).sent l)).kind=129)
 (hX:∀s' key rep,(s',key,rep)=uX (ah aT) s l r n f->∀(F':bN eB (bA k s')) (vI:List av),Fu tg tc k s' F'->X s' key rep F' vI):Oz (ah aT) tg tc it k s F n c f l r X:=by
 refine⟨h.eY,⟨rfl,hc,hn⟩,h.zF,h.co,⟨⟨hl,hr⟩,by rw[iB];exact Fq⟩,λs' key rep e F' vI v1 v2=>?_⟩;rw[iB]at e;have hC:=Vv h.c e;exact hX s' key rep e F' vI ⟨h.tg,h.tc,by rw[hC.2];exact h.q,h.zF,hC.1,v1,v2⟩
theorem Vy {key:Sd.Byt} {m:Sd.bW} {X:(s':Sd.Scene)->TR->List av->bN eB (bA k (fS s'))->Prop} (h:Fu tg tc k s F) (hl:1<=l/\l<=3) (hm:lx m)
 (hX:∀s',s'=cQ (ah aT) s l 0 (cR m+8) (cO key l (cR m) (oG m))->∀(r:TR) (fn:List av) (F0:bN eB (bA k (fS s'))),Fu tg tc k (fS s') F0->mg eB s'.sent r.fv fn->(∀y∈s'.sent,Sd.kr y)/\s'.sent.length<=10->X s' r fn F0):Ct (ah aT) tg tc it k s F key l m X:=by
 refine⟨h.eY,key,⟨rfl,hm,hl,h.zF,h.co⟩,?_⟩;rw[iB];intro s' e r fn F0 v1 v2 hf;refine hX s' e r fn F0 ⟨h.tg,h.tc,?_,h.zF,?_,v1,v2⟩ hf ?_
 ·show s'.c.p.queue=k.most;rw[e,Cs h.c];exact h.q
 ·rw[e];exact h.c.item _ _ _ _
 ·rw[e];exact ov h.c _ _ _ _
theorem yw {X:Prop} (h:Fu tg tc k s F) (hX:X):aaU tg tc it k s X:=⟨h.eY,λ_ _ _ _=>hX⟩
theorem mg.mem {l:List (Int×Sd.Reply)} {fv:Nat->TQ} {fn fB:List av} (h:mg eB l fv fn) (hm:∀y∈fn,y∈fB):mg eB l fv fB:=λj hj=>by
 obtain⟨x,c,b,h1,h2,h3⟩:=h j hj;exact⟨x,c,b,h1,h2,λy hy=>hm y (h3 y hy)⟩
end
structure AQ (p q:Nat->Int):Prop where
 lo:∀i,i<=4->q i=p i
 r9:q 9=1/\q 13=0
 Zw:∀i,10<=i/\i<=12->q i=14
 tab:∀i,14<=i/\i<=33->q i=15
 gr:∀i,34<=i/\i<=38->q i=31
 mo:∀i,39<=i/\i<=41->q i=p i
 ti:∀i,42<=i->i<=46->1<=q i/\q i<=1000
 be:q 47=p 47
 qs:∀i,48<=i->i<=49->1<=q i/\q i<=3
 li:∀i,50<=i/\i<=54->q i=p i
 ep:0<=q 55/\q 55<=65535
theorem AQ.code {x:ij} {p q:Nat->Int} {m:Nat->Nat} (h:AQ p q) (hM:Made x p m) {kn:Nat->Nat} (hk:∀j,j<4->1<=kn j/\kn j<=64):ee q kn=0/\∀ks,Sd.cK ⟨q,ks⟩:=by
 have g:=λi hi=>hM.I.lo i hi;have md:=λ(i:Nat) (m:Int) (h1:0<m) (h2:m<=1000000)=>oq (x.q i) h1 h2;have Iv:pN 14=true:=by decide
 refine Uq ?_ ⟨(h.lo 0 (by decide)).trans (g 0 (by decide)),(h.lo 4 (by decide)).trans (g 4 (by decide)),h.r9.1,h.r9.2,(h.li 50 (by decide)).trans (g 50 (by decide))⟩ hk ⟨by rw[h.Zw 10 (by decide)];exact Iv,by rw[h.Zw 11 (by decide)];exact Iv,by rw[h.Zw 12 (by decide)];exact Iv⟩ (λi h1 h2=>by rw[h.tab i ⟨h1,h2⟩];decide) (λi h1 h2=>by rw[h.gr i ⟨h1,h2⟩];decide) ?_ h.ti ?_ h.qs ?_ ?_ h.ep
 ·rw[h.lo 1 (by decide),h.lo 2 (by decide),h.lo 3 (by decide)];exact hM.o.perm
 ·intro i h1 h2;rw[h.mo i ⟨h1,h2⟩,g i (by omega)];have:pV (p 1) (p 2) (p 3) x.q i=cW (x.q i) 5:=by
   have:i=39\/i=40\/i=41:=by omega
   rcases this with rfl|rfl|rfl<;>rfl
  rw[this];have:=md i 5 (by decide) (by decide);omega
 ·rw[h.be,g 47 (by decide)];have:=md 47 1001 (by decide) (by decide);show 0<=cW (x.q 47) 1001/\cW (x.q 47) 1001<=1000;omega
 ·intro i h1 h2;rw[h.li i (by omega),g i (by omega)];have:pV (p 1) (p 2) (p 3) x.q i=cW (x.q i) 1001:=by
   have:i=51\/i=52\/i=53:=by omega
   rcases this with rfl|rfl|rfl<;>rfl
  rw[this];have:=md i 1001 (by decide) (by decide);omega
 ·rw[h.li 54 (by decide),g 54 (by decide)];show 1<=i64.wrap (1+cW (x.q 54) 1000)/\i64.wrap (1+cW (x.q 54) 1000)<=1000;rw[one_mod _ (by decide) (by decide)];have:=md 54 1000 (by decide) (by decide);omega
theorem AQ.at {p q q':Nat->Int} (h:AQ p q) (e:∀i,i<56->iZ i=false->q' i=q i):AQ p q' where
 lo i hi:=by rw[e i (by omega) (j5 (by omega))];exact h.lo i hi
 r9:=by rw[e 9 (by decide) rfl,e 13 (by decide) rfl];exact h.r9
 Zw i hi:=by rw[e i (by omega) (j5 (by omega))];exact h.Zw i hi
 tab i hi:=by rw[e i (by omega) (j5 (by omega))];exact h.tab i hi
 gr i hi:=by rw[e i (by omega) (j5 (by omega))];exact h.gr i hi
 mo i hi:=by rw[e i (by omega) (j5 (by omega))];exact h.mo i hi
 ti i h1 h2:=by rw[e i (by omega) (j5 (by omega))];exact h.ti i h1 h2
 be:=by rw[e 47 (by decide) rfl];exact h.be
 qs i h1 h2:=by rw[e i (by omega) (j5 (by omega))];exact h.qs i h1 h2
 li i hi:=by rw[e i (by omega) (j5 (by omega))];exact h.li i hi
 ep:=by rw[e 55 (by decide) rfl];exact h.ep
theorem Vz {tg tc:TypeId} {u:World} {x:ij} {p q:Nat->Int} {m d:Nat->Nat} {n:Nat} {X:(p2:Sd.Pol)->(k:LK)->bN eB (bA k (ib p2))->Prop} (hM:Made x p m) (h:AQ p q)
 (hX:∀p2 k F,Fu tg tc k (ib p2) F->(∀i,i<56->iZ i=false->p2.i i=q i)->(∀j,j<4->p2.k j=(m j,xZ x u j))->(∀j,j<4->1<=m j/\m j<=64)->X p2 k F):nwP tg tc u x (kg n q m d) m X:=by
 have hb:∀j,j<4->1<=m j/\m j<=64:=λj hj=>by rw[hM.n j];exact TZ _
 have va:∀j,j<4->1<=uU (kg n q m d) j/\uU (kg n q m d) j<=64:=λj hj=>by rw[nH _ _ _ _ hj];exact hb j hj
 have h2:=(h.at (q':=λi=>iN (nth (kg n q m d) i)) (λi h1 h2=>Ck n q m d h1 h2)).code hM va;refine⟨⟨h2.1,λj hj=>?_,λj hj=>⟨(va j hj).2,?_⟩⟩,λp2 k F hN v1 v2=>?_⟩
 ·rw[nH _ _ _ _ hj]
  match j,hj with
  |0,_=>rfl
  |1,_=>rfl
  |2,_=>rfl
  |3,_=>rfl
  |j+4,h=>exact absurd h (by omega)
 ·rw[nH _ _ _ _ hj,Un _ _ _ _ hj];omega
 ·have hC0:eo k (ib p2):=Ur hN (h2.2 _) va;have he:=hN.eq;refine hX p2 k F ⟨hN.tg,hN.tc,hN.most.symm,hN.zF,hC0,v1,v2⟩ (λi h1 h2=>?_) (λj hj=>?_) hb
  ·rw[he];exact Ck n q m d h1 h2
  ·rw[he];show(uU (kg n q m d) j,xZ x u j)=_;rw[nH _ _ _ _ hj]
end Go.Proofs.YtggfpcggakghnaaGreatDoor
namespace Go.Proofs.YtggfpcggakghnaaGreatDoor
open Go Go.RowKit Go.BigFrame Sx Vx
def LSp (C:Sd.Crypt):List (dI (LG eB)):=⟨20,false,V7 λ_=>uc C⟩::⟨21,false,V7 λ_=>n7 C⟩::LBs C
theorem VC:ai prog gS (LSp (ah aT)):=ai.cons (xP (zu iC)) (ai.cons (xP (zt iC)) xR)
def sno (K:V->Prop):Prop:=K (.bool false)
abbrev Q1 (s:Sd.Scene) (l:Int):Sd.Reply:=Sd.dr (Sd.aQ s.sent l)
def ai5 (tg tc:TypeId) (it:Nat) (k:LK) (s:Sd.Scene) (F:bN eB (bA k s)) (sv:Sd.Scene) (X:(s':Sd.Scene)->TR->List av->bN eB (bA k (fS s'))->Prop):Prop:=EY tg tc it k s/\CoY k s F/\Vn (fr:=eB) (k:=k) sv X
def r0P (rs:List Sd.Rec) (X:Prop):Prop:=(0<=(0:Int)/\(0:Int)<(rs.length:Int))/\((0:Int).toNat<rs.length/\∀j,(H_ rs j).length=6)/\X
def shP (tg tc:TypeId):Prop->Prop:=λX=>(false=false/\(gi tg).c=(gi tg).c/\false=false/\(sf tc).c=(sf tc).c)/\X
def spQ (p:Nat->Int) (i:Nat):Int:=bif Nat.beq i 55 then 65534 else bif Nat.beq i 46 then 1 else ub p i
section
variable(C:Sd.Crypt) (tg tc:TypeId) (u:World) (x:ij) (f:Nat->Nat×Sd.Byt) (x0 x1:Int) (nw:Bool) (K:V->Prop) (q:Nat->Int) (m d:Nat->Nat)
def spT (a:Int) (k:LK) (s3 s7:Sd.Scene) (F7:bN eB (bA k (fS s7))) (sp:Bool):Prop:=
 cond ((Q1 s3 a).kind !=131) (sno K) (cond (s7.c.t.holder !=a) (sno K) (cond (s7.c.t.epoch !=65535) (sno K) (cond (!sp) (sno K) (cond ((s7.c.q.length:Int)!=0) (sno K) (cond (s7.c.t.offer !=-1) (sno K)
  (ai5 tg tc 10 k (fS s7) F7 ((dv (fS s7)).jg C true) λs8 r8 fn8 F8=>aaU tg tc 10 k (fS s8) (cond (s8.c.t.holder==4) (K (.bool (s8.c.t.epoch==65535))) (sno K))))))))
def spB (a b:Int) (ja jb:Nat):Prop:=nwP tg tc u x (kg 4 q m d) m λp2 k F=>
 Oz C tg tc 10 k (ib p2) F (m ja) (m ja+d ja) (xZ x u ja) a 1 λs1 one r1 F1 fB1=>
 Oz C tg tc 10 k s1 F1 (m jb) (m jb+d jb) (xZ x u jb) b 2 λs2 two r2 F2 Wa=>
 Ct C tg tc 10 k s2 F2 one a {Sd.aD 5 with seq:=1} λs3 r3 fn3 F3=>
 Ct C tg tc 10 k (fS s3) F3 two b {Sd.aD 5 with seq:=1,now:=nw} λs4 r4 fn4 F4=>
 Ct C tg tc 10 k (fS s4) F4 one a {Sd.aD 6 with seq:=2,bx:=b} λs5 r5 fn5 F5=>
 Ct C tg tc 10 k (fS s5) F5 one a {Sd.aD 9 with seq:=3} λs6 r6 fn6 F6=>
 ai5 tg tc 10 k (fS s6) F6 ((dv (fS s6)).dU C ⟨true,⟨0,0,i64.wrap (-1-q 47),0⟩,false⟩) λs7 r7 fn7 F7=>
 aaU tg tc 10 k (fS s7) (let T:=spT C tg tc K a k s3 s7 F7
  cond ((Q1 s4 b).code==24) (cond ((Q1 s5 a).code==24) (cond ((Q1 s6 a).code==24) (cond ((s7.recs.length:Int)==1) (r0P s7.recs (T ((s7.recs.getD 0 default).code==24))) (T false)) (T false)) (T false)) (T false))
def gSp (r0 r1:Nat) (i:Nat):Nat:=bif Nat.beq i 36 then r0 else bif Nat.beq i 41 then r1 else(1+r1)%3
def spW (r0 r1:Nat):Prop:=cJ (yr prog gS (LSp C) (hkB (gSp r0 r1)) Vu λ_ _=>none) 60 6 [.agg [.j8 ⟨x.q,f⟩ x.ka x.kn x.kc],.agg [.int .u8 x0,.int .u8 x1],.bool nw] [gi tg,sf tc] [.cn u] (λv _ _=>K v)
def spY (r0 r1:Nat) (T:Prop->Prop) (a b:Int) (ja jb:Nat):Prop:=shP tg tc ((zR x u 0/\zR x u 1/\zR x u 2/\zR x u 3)/\∀(p:Nat->Int) (m d:Nat->Nat),Made x p m->
 ((i64.wrap x0).tmod 3=Int.ofNat r0/\(i64.wrap x1).tmod 3=Int.ofNat r1/\T (spB C tg tc u x nw K (spQ p) m d a b ja jb)))
end
end Go.Proofs.YtggfpcggakghnaaGreatDoor
