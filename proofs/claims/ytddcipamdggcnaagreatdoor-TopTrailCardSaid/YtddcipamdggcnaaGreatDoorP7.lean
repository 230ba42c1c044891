/- Part 7 of the proof. -/
import Derived.Test.YtddcipamdggcnaaGreatDoorCards
import Derived.Test.YtddcipamdggcnaaGreatDoorTie
import Derived.Lib.SmallJoins
import Derived.SevenTiedAt
import Derived.LaidMore
import Derived.Stop.Joined
import Derived.Test.YtddcipamdggcnaaGreatDoorP6
set_option linter.all false
set_option maxRecDepth 100000
set_option maxHeartbeats 4000000
noncomputable section
open Sd(Ev Rec aM aQ aX ai az kx oV)
open Go.Proofs.Tryz
open Go.Proofs.Tryz renaming prog->lm
open Go.IntKind (u8 u16 u32 u64 i64)
open Bool renaming true->af,false->ah,and_eq_true->bJ
open Go renaming Addr->aF,Program->aL,TypeId->aP,Value->aj,World->an,Operand->bA
open Go.Addr renaming add_lit->iY
open Go.IntKind renaming bits->td,signed->te,wrap->vH
open Go.Proofs.Tryz renaming checked->ahj
open Go.Proofs.YtddcipamdggcnaaGreatDoor.Rows renaming laid_sidestick_sha_roots->ahi
open Go.Src renaming ofSlice->qu
open Go.Value renaming okWide->DX,int->fI,slice->tj
open Go.Value.slice renaming injEq->Zj
open Int renaming fdiv->il,toNat_natCast->tf,le_refl->uy,le_trans->vM
open List renaming pairwise_append->DQ,flatMap_def->GF,take_length->Le,append_assoc->bZ,range->bg,mem_cons->cG,append_nil->cy,mem_append->dV,countP_append->ee,length_append->fH,cons_append->fe,nil_append->fu,getElem?_append_left->gB,getD->gh,map_cons->gx,getElem?_toArray->j7,countP_cons->j9,getElem?_eq_none->jA,take_append_drop->jR,mem_singleton->jS,getElem?_eq_getElem->jh,length_cons->jv,mem_append_left->kB,sublist_append_right->kM,eq_nil_of_length_eq_zero->kX,map_map->lN,Perm->lO,countP_nil->lQ,map_congr_left->mB,mem_append_right->oF,getElem?_range->pr,not_mem_nil->py,mem_cons_of_mem->qA,getD_eq_getElem?_getD->qx,mem_of_getElem?->rC,range_succ_eq_map->ta,range_succ->vK,flatMap_append->vL,length_take->w9,foldl_cons->xg,mem_cons_self->xk
open List.Pairwise renaming nil->ag5
open List.Perm renaming append_right->BA,append_left->j8,trans->xm,refl->zM
open Nat renaming beq->aC,le_refl->cW,ble->ck,eq_of_beq_eq_true->cw,zero_add->d_,lt_or_ge->di,blt->dq,le_of_ble_eq_true->eU,le_trans->h_,zero_le->oG
open Option renaming some->aa,none->ag
open Option.some renaming injEq->a_,inj->cP
open Prod.mk renaming injEq->bI
open Go Go.RowKit Go.BigFrame Sx Vx
namespace Go.Proofs.YtddcipamdggcnaaGreatDoor
section
variable{fr:aQ->Nat×az}
structure jg where
 x1:Option aF
 c1:Nat
 x2:Option aF
 c2:Nat
 fv:Nat->lh
def wZ(t:ai)(v:jg):List V:=zq t (.raw (.slice v.x1 t.bE.length v.c1)) (.raw (.slice v.x2 t.aY.length v.c2))
structure zF(fr:aQ->Nat×az)(t:ai)(v:jg)(B:List av):Prop where
 s:∃b,dk 2 61 ((bg t.bE.length).flatMap (lK t.bE v.fv)) v.x1 t.bE.length v.c1 b/\∀y∈b,y∈B
 r:∃b,dk 6 64 ((bg t.aY.length).flatMap (fZ t.aY)) v.x2 t.aY.length v.c2 b/\∀y∈b,y∈B
 f:vz fr t.bE v.fv B
def vz.more{l:List (Int×aQ)}{fv:Nat->lh}{B B':List av}(h:vz fr l fv B)(hs:∀y∈B,y∈B'):vz fr l fv B':=λj hj=>by
 obtain⟨x,c,b,h1,h2,h3⟩:=h j hj;exact⟨x,c,b,h1,h2,λy hy=>hs y (h3 y hy)⟩
def zF.more{t:ai}{v:jg}{B B':List av}(h:zF fr t v B)(hs:∀y∈B,y∈B'):zF fr t v B':=by
 obtain⟨b1,s1,s2⟩:=h.s;obtain⟨b2,r1,r2⟩:=h.r;exact⟨⟨b1,s1,λy hy=>hs y (s2 y hy)⟩,⟨b2,r1,λy hy=>hs y (r2 y hy)⟩,h.f.more hs⟩
structure Gt(m m':eY fr)(t:ai)(rr:Nat->Sd.Rest)(v:jg):Prop where
 k:m'.k=m.k
 ic:m'.ic=m.ic
 it:m'.it=m.it
 a:m'.G.a=m.G.a
 s:m'.s=fE t
 ok:ql m'.k m'.s m'.F m'.G
 rs:f_ m'.G=rr
 f:∃e,m'.fB=e++m.fB
 at_:zF fr t v m'.fB
 nS:t.bE.length<=10000
 nR:t.aY.length<=10000
def Gt.R{m m':eY fr}{t:ai}{rr:Nat->Sd.Rest}{v:jg}(h:Gt m m' t rr v):m'.R=m.R:=by
 unfold eY.R;rw[h.ic,h.a]
def Yx(C:aM):MM fr:=λar m rest Kb=>match ar with
 |[.agg [.int .i64 kd,.int .i64 src,vv,.bool vl,.int .i64 a,.int .i64 b,.int .i64 c,.int .i64 d,.bool gv,.bool bad]]=>cond (Pk vv) (ql m.k m.s m.F m.G/\kx ⟨a,b,c,d⟩/\
  ∃eb:jy,EvB kd src vv rest eb/\∀(t:ai),t=(Sd.dU.go C cn ⟨m.s,f_ m.G⟩ (jM kd src eb ⟨vl,⟨a,b,c,d⟩,gv⟩ bad)).s->∀(v:jg)(m':eY fr),Gt m m' t (Sd.dU.go C cn ⟨m.s,f_ m.G⟩ (jM kd src eb ⟨vl,⟨a,b,c,d⟩,gv⟩ bad)).r v->Kb (.agg (wZ t v)) m' []) False
 |_=>False
def ayl(ht:Body (fr:=fr) 124 dE):XE 13 (Yx (fr:=fr) (aO aU)):=by
 intro u ap ar m rest Kb im R ms w0 w hM S;unfold Yx at hM;split at hM
 ·rename_i kd src vv vl a b c d gv bad;cases mK:Pk vv with
  |false=>rw[mK]at hM;exact hM.elim
  |true=>
   rw[mK]at hM;obtain⟨hok,hx,eb,⟨hv,hb,he,hn⟩,hK⟩:=hM;obtain⟨Q,hQ⟩:∃Q,(ax rest R).Perm (eb.B++Q):=by
    rcases hb with e|⟨bs,h1,b,h2,h3⟩
    ·exact⟨ax rest R,by rw[e];exact zM _⟩
    ·obtain⟨Q1,J1⟩:=afk h1 R;obtain⟨Q2,J2⟩:=awf h2;refine⟨Q2++Q1,J1.trans ?_⟩;rw[<-bZ,h3];exact BA _ J2
   have S1:St ms w0 (lits [0,1,m.ic,m.it,im] [0,1,m.ic,m.it,im] (jZ m.k m.s m.G)++ax (wU u m.k m.s m.F [] m.G eb) (m.fB++Q)) w:=by
    refine S.perm ?_;show lO (m.wW im++_) (m.wW im++(cA u++((m.F.B++[])++(m.G.B++(eb.B++(m.fB++Q))))));refine j8 _ ?_;have h1:(m.F.B++(m.fB++(m.G.B++(cA u++ax rest R)))).Perm ((m.F.B++(m.fB++(m.G.B++cA u)))++(eb.B++Q)):=by
     refine xm ?_ (j8 _ hQ);exact dW λf=>by simp only[ee];omega
    refine h1.trans ?_;exact dW λf=>by simp only[ee,lQ];omega
   have hg:Gl gS [0,1,m.ic,m.it,im]:=by
    intro g i dz;unfold gS at dz;split at dz
    ·obtain rfl:=cP dz;exact⟨sP,rfl⟩
    ·obtain rfl:=cP dz;exact⟨sP,rfl⟩
    ·cases dz
   have ve:=awd (u:=u) (kd:=kd) (src:=src) (v:=den ap vv) (sm:=⟨vl,⟨a,b,c,d⟩,gv⟩) (bad:=bad) ht hg hok (λe1 e2=>by rw[hv e1 e2];simp only[den]) he hn hx S1;have agx:(aJ [0,1,m.ic,m.it,im] [.ptr 4 0,.agg (dH kd src (den ap vv) ⟨vl,⟨a,b,c,d⟩,gv⟩ bad)]).toArray=(.pointer (aa ⟨im,0,ag⟩)::aJ ap [.agg [.int .i64 kd,.int .i64 src,vv,.bool vl,.int .i64 a,.int .i64 b,.int .i64 c,.int .i64 d,.bool gv,.bool bad]]).toArray:=
    awg (ap:=ap) (js:=[0,1,m.ic,m.it]) (kd:=kd) (src:=src) (sm:=⟨vl,⟨a,b,c,d⟩,gv⟩) (bad:=bad) mK im
   rw[agx]at ve;refine ve.mono ?_;clear ve agx S S1;rintro v w' ⟨s',F',gQ,bN,G',⟨hM',hA,hr,ha,hnS,hnR⟩,rfl,S2⟩;revert hK hA hr;generalize (Sd.dU.go (aO aU) cn ⟨m.s,f_ m.G⟩ (jM kd src eb ⟨vl,⟨a,b,c,d⟩,gv⟩ bad)).r=rr;generalize (Sd.dU.go (aO aU) cn ⟨m.s,f_ m.G⟩ (jM kd src eb ⟨vl,⟨a,b,c,d⟩,gv⟩ bad)).s=t;intro hK hA hr;obtain⟨rfl,nS,⟨fv,oS,hf⟩,nR,oR⟩:=hA;have hS':=bN.hS;rw[nS,oS]at hS';have hR':=bN.hR;rw[nR,oR]at hR'
   let vd:jg:=⟨bN.xS,bN.cS,bN.xR,bN.cR,fv⟩
   let m':eY fr:=⟨m.k,fE t,F',(bN.bS++(bN.bR++gQ))++m.fB,G',m.ic,m.it⟩
   have aV:zF fr t vd m'.fB:=⟨⟨bN.bS,hS',λy hy=>kB _ (kB _ hy)⟩,⟨bN.bR,hR',λy hy=>kB _ (oF _ (kB _ hy))⟩,
    vz.more hf λy hy=>kB _ (oF _ (oF _ hy))⟩
   refine⟨.agg (wZ t vd),m',[],[],rfl,?_,rfl,hK t rfl vd m' ⟨rfl,rfl,rfl,ha,rfl,hM',hr,⟨_,rfl⟩,aV,oM,oM⟩,?_⟩
   ·unfold Kc zq wZ zq;rw[nS,nR];simp only[den,ao,cl,fE];rfl
   ·have e2:m'.wW im=lits [0,1,m.ic,m.it,im] [0,1,m.ic,m.it,im] (jZ m.k (fE t) m.G):=by
     show lits _ _ [cx m.k,g_ m.k,fM m.k 3 (fE t),fA (fE t),wP 2 G']=_;rw[afw ha];rfl
    rw[e2];refine S2.perm ?_;show lO (_++(cA u++((F'.B++gQ)++(bN.bS++(bN.bR++(G'.B++(eb.B++(m.fB++Q)))))))) (_++([]++(F'.B++(((bN.bS++(bN.bR++gQ))++m.fB)++(G'.B++(cA u++ax rest R))))));refine j8 _ ?_;have h1:(([]:List av)++(F'.B++(((bN.bS++(bN.bR++gQ))++m.fB)++(G'.B++(cA u++ax rest R))))).Perm ((F'.B++(((bN.bS++(bN.bR++gQ))++m.fB)++(G'.B++cA u)))++(eb.B++Q)):=by
     refine xm ?_ (j8 _ hQ);exact dW λf=>by simp only[ee,lQ];omega
    refine xm ?_ h1.symm;exact dW λf=>by simp only[ee];omega
 ·exact hM.elim
def jN(ts:Nat->ai)(vs:Nat->jg)(j:Nat):List aj:=ao [] (wZ (ts j) (vs j))
def agy(ts:Nat->ai)(vs:Nat->jg)(j:Nat):(jN ts vs j).length=46:=by
 unfold jN wZ zq;simp[ao,cl,den]
def Yy(l:List V):VB:=⟨af,⟨28,(0,0)⟩,l⟩
def aym(x:my)(f:Nat->Nat×az):VB:=Yy [.fi ⟨x.q,f⟩ x.ka x.kn x.kc]
def ayn(x:my)(u:an)(n d:Nat->Nat):List VB:=[hU (n 0) (d 0) (mw (x.kn 0) (dP u (x.ka 0))),hU (n 1) (d 1) (mw (x.kn 1) (dP u (x.ka 1))),hU (n 2) (d 2) (mw (x.kn 2) (dP u (x.ka 2))),hU (n 3) (d 3) (mw (x.kn 3) (dP u (x.ka 3)))]
def s8(k:LK)(p2:aX)(F:bx fr (bd k (mz p2)))(ic it:Nat)(a:Nat->Nat):eY fr:=⟨k,bV (mz p2),F,[],.new a,ic,it⟩
def mkP(bl:List VB)(k:LK)(p2:aX)(it:Nat):Prop:=bl=bl/\nr k it (mz p2)=nr k it (bV (mz p2))/\p2.da=p2.da/\p2.jk=p2.jk
def ayo(bl:List VB)(b:VB):Prop:=∃e,bl++[b]=bl++e
section
variable(C:aM)(tg tc:aP)(ty:BT)(u:an)(x:my)(f:Nat->Nat×az)(o n c:Nat)(a:Option aF)(es:Nat->eT)(f6 f7:List aj)
end
def ayp(es:Nat->eT)(n:Nat)(bs:List jz):Prop:=∀j,j<n->∃b∈bs,(es j).x=b.x/\(es j).n=b.n/\(es j).c=b.c/\b.n<=120/\By b.f/\kx (es j).s.x
def agz(tg:aP)(u:an)(es:Nat->eT)(o n c:Nat)(f6:List aj)(X:(dN:Nat->eT)->(bs:List jz)->Option aF->Nat->Nat->List aj->Nat->Prop):Prop:=
 ∃Gu:Nat->eT,(kz es=kz Gu/\n=n/\(∀j,j<n->o=f6.length)/\n<=c/\(∃t,aa (fO tg)=aa (fO t))/\∀j,j<n->jx u (Gu j).x (Gu j).n (Gu j).c (dP u (Gu j).x))/\
  ∀(dN:Nat->eT)(bs:List jz)(x:Option aF)(c' sV:Nat)(us:List aj),DD u Gu dN (cY 60 n) bs->X dN bs x c' sV us (cY 60 n)
def Yz(tg tc:aP)(R:VB)(m:eY fr):Prop:=aa (fO tg)=aa (cx m.k)/\aa (Kk tc)=aa (g_ m.k)/\aa R=aa m.R
def agA(j N:Nat):Prop:=0<=(j:Int)/\(j:Int)<(N:Int)
def evP(es:Nat->eT)(j N:Nat):Prop:=(j:Int).toNat<N/\∀i,(kz es i).length=10
section
variable(C:aM)(tg tc:aP)(ty:BT)(u:an)(x:my)(f:Nat->Nat×az)(o n c:Nat)(a:Option aF)(es:Nat->eT)(f6 f7:List aj)
variable(K:V->Prop)
end
def ayq{k:LK}{p2:aX}{F:bx fr (bd k (mz p2))}(hC:ft k (mz p2))(hm:k.most=p2.queue)(hp:Du k)(v1:cC=F.vs)(v2:cC=F.vr)(ic it:Nat)(b:Nat->Nat):ql (fr:=fr) (s8 k p2 F ic it b).k (s8 k p2 F ic it b).s (s8 k p2 F ic it b).F (s8 k p2 F ic it b).G:=
 ⟨by show ft k (bV (mz p2));rw[nu];exact hC,hm.symm,hp,v1,v2,λi _ j=>⟨uy 0,by show(0:Int)<=255;decide⟩,λi _=>oG 36⟩
section
variable{tg tc:aP}{ty:BT}{u:an}{x:my}{f:Nat->Nat×az}{o n c:Nat}{a:Option aF}{es:Nat->eT}{f6 f7:List aj}
end
structure DL(u:an)(es:Nat->eT)(o n:Nat)(f6:List aj):Prop where
 po:∀j,j<n->o=f6.length
 rd:∀j,j<n->jx u (es j).x (es j).n (es j).c (dP u (es j).x)
 x4:∀j,kx (es j).s.x
def DL.cp{u:an}{es dN:Nat->eT}{o n N:Nat}{f6:List aj}{bs:List jz}(h:DL u es o n f6)(hF:DD u es dN N bs):ayp dN N bs:=by
 intro j hj;obtain⟨b,q1,q2,q3,q4⟩:=hF.each j hj;refine⟨b,rC q1,by rw[q2];rfl,by rw[q2];rfl,by rw[q2];rfl,by rw[q3];unfold cY;omega,by rw[q4];exact ae4 u _,by rw[q2];exact h.x4 j⟩
def DL.few{tg:aP}{u:an}{es:Nat->eT}{o n c:Nat}{f6:List aj}{X:(dN:Nat->eT)->(bs:List jz)->Option aF->Nat->Nat->List aj->Nat->Prop}(h:DL u es o n f6)(hn:n<=c)
 (hX:∀dN bs x c' sV us,DD u es dN (cY 60 n) bs->X dN bs x c' sV us (cY 60 n)):agz tg u es o n c f6 X:=⟨es,⟨rfl,rfl,h.po,hn,⟨tg,rfl⟩,h.rd⟩,hX⟩
def ayr{j N:Nat}(h:j<N):agA j N:=⟨oM,oM⟩
def Bm(j:Nat):((j:Int)).toNat=j:=tf j
def agB{tg tc:aP}{m:eY fr}{R:VB}(h1:m.k.tg=tg)(h2:m.k.tc=tc)(h3:m.R=R):Yz tg tc R m:=by
 subst h1 h2 h3;exact⟨rfl,rfl,rfl⟩
end
end Go.Proofs.YtddcipamdggcnaaGreatDoor
namespace Sd
def dU.run(C:aM)(crc:az->Nat->Int)(m:dU)(ev:Nat->Ev):Nat->dU
 |0=>m
 |n+1=>(dU.run C crc m ev n).go C crc (ev n)
def dU.of(p:aX):dU:=⟨⟨.new p,[],[]⟩,λ_=>(0,λ_=>0)⟩
end Sd
namespace Go.Proofs.YtddcipamdggcnaaGreatDoor
variable{fr:aQ->Nat×az}
def Gv(es:Nat->eT)(bs:List jz)(j:Nat):Ev:=⟨(es j).kind,(es j).src,(match bs[j]?with|some b=>b.n|none=>0),(match bs[j]?with|some b=>b.f|none=>λ_=>0),(es j).s,(es j).bad⟩
def PV(es:Nat->eT)(n:Nat)(bs:List jz):Prop:=∀j,j<n->∃b,bs[j]?=aa b/\(es j).x=b.x/\(es j).n=b.n/\(es j).c=b.c/\b.n<=120/\By b.f/\kx (es j).s.x
structure Bn(fr:aQ->Nat×az)(P:aX)(ev:Nat->Ev)(mc:eY fr)(ts:Nat->ai)(vs:Nat->jg)(j:Nat):Prop where
 ok:ql mc.k mc.s mc.F mc.G
 s:mc.s=fE ((Sd.dU.of P).run (aO aU) cn ev j).s
 r:f_ mc.G=((Sd.dU.of P).run (aO aU) cn ev j).r
 t:∀i,i<j->ts i=((Sd.dU.of P).run (aO aU) cn ev (i+1)).s/\zF fr (ts i) (vs i) mc.fB/\(ts i).bE.length<=10000/\(ts i).aY.length<=10000
structure pg(fr:aQ->Nat×az)(tg tc:aP)(u:an)(x:my)(n:Nat) where
 p:Nat->Int
 m:Nat->Nat
 d:Nat->Nat
 hM:Made x p m
 mc:eY fr
 YB:mc.k.tg=tg
 t_:mc.k.tc=tc
 es:Nat->eT
 bs:List jz
 ev:PV es n bs
 ex:Option aF
 ec:Nat
 et:Nat
 eu:List aj
 j:Nat
 hj:j<=n
 ts:Nat->ai
 vs:Nat->jg
 ok:Bn fr (nP (oz 4 p m d) (afW x u)) (Gv es bs) mc ts vs j
 x:Option aF
 c:Nat
 bk:List av
 h:dk 46 48 ((bg j).flatMap (jN ts vs)) x j c bk
def agC(ts:Nat->ai)(vs:Nat->jg)(x:Option aF)(j c:Nat)(bk:List av)(h:dk 46 48 ((bg j).flatMap (jN ts vs)) x j c bk):bD:=⟨48,46,(bg j).flatMap (jN ts vs),x,j,c,bk,h⟩
def YC:bD:=⟨48,46,[],ag,0,0,[],pF 46 _⟩
noncomputable def zsL:List V:=match lX lm 55 with|some z=>z|none=>[]
def KB(x:Option aF)(n c:Nat):VB:=⟨af,⟨101,(0,0)⟩,[.raw (.slice x n c)]⟩
section
variable(C:aM)(tg tc:aP)(ty:BT)(u:an)(x:my)(f:Nat->Nat×az)(o n c:Nat)(a:Option aF)(es:Nat->eT)(f6 f7:List aj)
def YD(p:Nat->Int)(m d:Nat->Nat)(et:Nat)(dN:Nat->eT)(eu:List aj):List VB:=fO tg::Kk tc::nH ty n es f6 f7::aym x f::(ayn x u m d++[Yy (oz 4 p m d),jf et 10 (cY 60 n) (kz dN) eu])
def Gw(p:Nat->Int)(m d:Nat->Nat)(et:Nat)(dN:Nat->eT)(eu:List aj):List VB:=YD tg tc ty u x f n es f6 f7 p m d et dN eu++[Yy (oz 4 p m d),⟨af,⟨55,(0,0)⟩,zsL⟩]
def PW(y:pg fr tg tc u x (cY 60 n))(j:Int):List V:=[.ptr 11 0,.ptr 12 0,.ptr 13 0,.dB 9 0 (cY 60 n) y.ec y.ex,.int .i64 (cY 60 n),.int .i64 j]
def agD(y:pg fr tg tc u x (cY 60 n))(l:VB):List VB:=Gw tg tc ty u x f n es f6 f7 y.p y.m y.d y.et y.es y.eu++[y.mc.R,l]
def YE(y:pg fr tg tc u x (cY 60 n)):List VB:=agD tg tc ty u x f n es f6 f7 y (KB y.x y.j y.c)
def YF(y:pg fr tg tc u x (cY 60 n)):List (LG fr):=[.br u,.gu y.mc,.hJ y.bs,.row (agC y.ts y.vs y.x y.j y.c y.bk y.h)]
def PX:Lp (LG fr):=we (X:=pg fr tg tc u x (cY 60 n)) (λy=>cY 60 n-y.j) 31 14 [5,7,8,13,14,15] (λy=>PW tg tc u x n y y.j) (YE tg tc ty u x f n es f6 f7) (YF tg tc u x n) (λ_=>rfl) (λ_=>kR) (λ_=>rfl)
def agE(C:aM)(m:eY fr)(e:eT)(rest:List (LG fr))(X:ai->jg->eY fr->Prop):Prop:=
 ql m.k m.s m.F m.G/\kx ⟨e.s.x.a,e.s.x.b,e.s.x.c,e.s.x.d⟩/\∃eb:jy,EvB e.kind e.src (.raw (.slice e.x e.n e.c)) rest eb/\
  ∀(t:ai),t=(Sd.dU.go C cn ⟨m.s,f_ m.G⟩ (jM e.kind e.src eb ⟨e.s.valid,⟨e.s.x.a,e.s.x.b,e.s.x.c,e.s.x.d⟩,e.s.qG⟩ e.bad)).s->∀(v:jg)(m':eY fr),Gt m m' t (Sd.dU.go C cn ⟨m.s,f_ m.G⟩ (jM e.kind e.src eb ⟨e.s.valid,⟨e.s.x.a,e.s.x.b,e.s.x.c,e.s.x.d⟩,e.s.qG⟩ e.bad)).r v->X t v m'
def YH(y:pg fr tg tc u x (cY 60 n)):Prop:=
 let N:=cY 60 n
 agA y.j N/\evP y.es y.j N/\Yz tg tc y.mc.R y.mc/\agE C y.mc (y.es (y.j:Int).toNat) ([]++[.hJ y.bs,.row (agC y.ts y.vs y.x y.j y.c y.bk y.h)]) λt v m'=>
  (V.raw (.slice y.x y.j y.c)=V.raw (.slice y.x y.j y.c)/\y.j+1<=1000000)/\∀(x':Option aF)(c':Nat)(bk:List av)(h:dk 46 48 ((bg y.j).flatMap (jN y.ts y.vs)++ao [] (wZ t v)) x' (y.j+1) c' bk),
   af=af/\uY (λy=>cY 60 n-y.j) (λy=>PW tg tc u x n y y.j) (YE tg tc ty u x f n es f6 f7) (YF (fr:=fr) tg tc u x n) y (PW tg tc u x n y (i64.wrap ((y.j:Int)+1))) (agD tg tc ty u x f n es f6 f7 y (KB x' (y.j+1) c')) [.br u,.gu m',.hJ y.bs,.row ⟨48,46,(bg y.j).flatMap (jN y.ts y.vs)++ao [] (wZ t v),x',y.j+1,c',bk,h⟩]
variable(Lf:(y:pg fr tg tc u x (cY 60 n))->Option aF->Nat->Nat->List aj->Prop)
def ays(y:pg fr tg tc u x (cY 60 n)):Prop:=Yz tg tc y.mc.R y.mc/\y.mc.s.c.p.queue=y.mc.k.most/\∀(za:Option aF)(zc zt:Nat)(zu:List aj),Lf y za zc zt zu
def ruX(p:Nat->Int)(m d:Nat->Nat)(et:Nat)(dN:Nat->eT)(eu:List aj)(ec:Nat)(ex:Option aF)(bs:List jz):Prop:=
 Py (oz 4 p m d) (n4 m)/\∀(p2:aX)(k:LK)(F:bx fr (bd k (mz p2)))(hN:XT (oz 4 p m d) (afW x u) tg tc p2 k)(v1:cC=F.vs)(v2:cC=F.vr),
  mkP (Gw tg tc ty u x f n es f6 f7 p m d et dN eu) k p2 17/\∀(ic it:Nat)(b:Nat->Nat),ayo (Gw tg tc ty u x f n es f6 f7 p m d et dN eu) (s8 k p2 F ic it b).R/\
   (af=af/\uX (λy=>PW (fr:=fr) tg tc u x n y y.j) (YE tg tc ty u x f n es f6 f7) (YF tg tc u x n) [.ptr 11 0,.ptr 12 0,.ptr 13 0,.dB 9 0 (cY 60 n) ec ex,.int .i64 (cY 60 n),.int .i64 0] (Gw tg tc ty u x f n es f6 f7 p m d et dN eu++[(s8 k p2 F ic it b).R,KB ag 0 0]) [.br u,.gu (s8 k p2 F ic it b),.hJ bs,.row YC])/\
   ∀(y:pg fr tg tc u x (cY 60 n))(g:Nat->aj),cond (decide ((y.j:Int)<(cY 60 n:Nat))) (YH C tg tc ty u x f n es f6 f7 y) (ays tg tc u x n Lf y)
def YI(fr:aQ->Nat×az)(P:aL)(C:aM):List (bT (LG fr)):=[⟨11,af,PQ P⟩,⟨13,ah,Gc (Yx C)⟩,⟨14,af,Gc Kw⟩,⟨20,af,Gs⟩]
variable(K:VK (LG fr))
end
end Go.Proofs.YtddcipamdggcnaaGreatDoor
namespace Go.Proofs.YtddcipamdggcnaaGreatDoor
section
variable{fr:aQ->Nat×az}
section
variable{tg tc:aP}{ty:BT}{u:an}{x:my}{f:Nat->Nat×az}{n:Nat}{es:Nat->eT}{f6 f7:List aj}{Lf:(y:pg fr tg tc u x (cY 60 n))->Option aF->Nat->Nat->List aj->Prop}
def ayt{p2:aX}{k:LK}{F:bx fr (bd k (mz p2))}{ev:Nat->Ev}{ic it:Nat}{b:Nat->Nat}(h:ql (fr:=fr) (s8 k p2 F ic it b).k (s8 k p2 F ic it b).s (s8 k p2 F ic it b).F (s8 k p2 F ic it b).G):Bn fr p2 ev (s8 k p2 F ic it b) (λ_=>mz p2) (λ_=>⟨ag,0,ag,0,λ_=>⟨ag,0,0⟩⟩) 0:=
 ⟨h,by show bV (mz p2)=fE (mz p2);rw[nu];rfl,rfl,λi hi=>absurd hi (Nat.not_lt_zero _)⟩
def ayu{m:eY fr}{es:Nat->eT}{n j:Nat}{bs:List jz}{rest:List (LG fr)}{X:ai->jg->eY fr->Prop}(hm:ql m.k m.s m.F m.G)(he:PV es n bs)(hj:j<n)(hb:LG.hJ bs∈rest)
 (hX:∀(t:ai),(t=(Sd.dU.go (aO aU) cn ⟨m.s,f_ m.G⟩ (Gv es bs j)).s)->∀(v:jg)(m':eY fr),Gt m m' t (Sd.dU.go (aO aU) cn ⟨m.s,f_ m.G⟩ (Gv es bs j)).r v->X t v m'):agE (aO aU) m (es j) rest X:=by
 obtain⟨b,iM,e1,e2,e3,e4,e5,e6⟩:=he j hj;have Ar:Gv es bs j=jM (es j).kind (es j).src b.red (es j).s (es j).bad:=by
  unfold Gv;rw[iM];rfl
 rw[Ar]at hX;refine⟨hm,e6,b.red,⟨λ_ _=>?_,.inr ⟨bs,hb,b,rC iM,rfl⟩,e5,h_ e4 dC⟩,λt ht v m' hR=>hX t ht v m' hR⟩;rw[e1,e2,e3];rfl
def Bn.next{P:aX}{ev:Nat->Ev}{mc m':eY fr}{ts:Nat->ai}{vs:Nat->jg}{j:Nat}{t:ai}{v:jg}(h:Bn fr P ev mc ts vs j)(ht:t=(Sd.dU.go (aO aU) cn ⟨mc.s,f_ mc.G⟩ (ev j)).s)
 (hF:Gt mc m' t (Sd.dU.go (aO aU) cn ⟨mc.s,f_ mc.G⟩ (ev j)).r v):Bn fr P ev m' (λi=>if i=j then t else ts i) (λi=>if i=j then v else vs i) (j+1):=by
 have e:Sd.dU.go (aO aU) cn ⟨mc.s,f_ mc.G⟩ (ev j)=(Sd.dU.of P).run (aO aU) cn ev (j+1):=by
  rw[h.s,h.r];rfl
 rw[e]at ht hF;refine⟨hF.ok,by rw[hF.s,ht],hF.rs,λi hi=>?_⟩;by_cases mW:i=j
 ·subst mW;rw[if_pos rfl,if_pos rfl];exact⟨ht,hF.at_,hF.nS,hF.nR⟩
 ·rw[if_neg mW,if_neg mW];obtain⟨q1,q2,q3⟩:=h.t i oM;obtain⟨e',he'⟩:=hF.f;exact⟨q1,q2.more λy hy=>by rw[he'];exact oF _ hy,q3⟩
def agF{ts:Nat->ai}{vs:Nat->jg}{j:Nat}{t:ai}{v:jg}:(bg j).flatMap (jN ts vs)++ao [] (wZ t v)=(bg (j+1)).flatMap (jN (λi=>if i=j then t else ts i) (λi=>if i=j then v else vs i)):=by
 rw[vK,vL];congr 1
 ·simp only[GF];congr 1;apply mB;intro i hi;have hi:=List.mem_range.1 hi;have mW:¬i=j:=oM;show _=ao [] (wZ (if i=j then t else ts i) (if i=j then v else vs i));rw[if_neg mW,if_neg mW];rfl
 ·rw[List.flatMap_cons,List.flatMap_nil,cy];show _=ao [] (wZ (if j=j then t else ts j) (if j=j then v else vs j));rw[if_pos rfl,if_pos rfl]
def ayv(y:pg fr tg tc u x (cY 60 n))(dy:y.j<cY 60 n):YH (aO aU) tg tc ty u x f n es f6 f7 y:=by
 have uj:=Bm y.j;have h60:cY 60 n<=60:=by unfold cY;omega
 unfold YH;rw[uj];refine⟨ayr dy,⟨by rw[uj];exact dy,λi=>rfl⟩,agB y.YB y.t_ rfl,?_⟩;refine ayu y.ok.ok y.ev dy sP λt ht v m' hF=>⟨⟨rfl,oM⟩,λx' c' bk h=>⟨rfl,?_⟩⟩;have hN:=y.ok.next ht hF;refine⟨⟨y.p,y.m,y.d,y.hM,m',by rw[hF.k];exact y.YB,by rw[hF.k];exact y.t_,y.es,y.bs,y.ev,y.ex,y.ec,y.et,y.eu,y.j+1,dy,_,_,hN,x',c',bk,agF▸h⟩,by show cY 60 n-(y.j+1)<cY 60 n-y.j;omega,?_,?_,?_⟩
 ·rw[lg oM];rfl
 ·show Gw tg tc ty u x f n es f6 f7 y.p y.m y.d y.et y.es y.eu++[y.mc.R,KB x' (y.j+1) c']=Gw tg tc ty u x f n es f6 f7 y.p y.m y.d y.et y.es y.eu++[m'.R,KB x' (y.j+1) c'];rw[hF.R]
 ·show[LG.br u,.gu m',.hJ y.bs,.row _]=[LG.br u,.gu m',.hJ y.bs,.row _];rw[agu agF h];rfl
def ayw{p:Nat->Int}{m d:Nat->Nat}{et:Nat}{dN:Nat->eT}{eu:List aj}{ec:Nat}{ex:Option aF}{bs:List jz}(hM:Made x p m)(Ar:PV dN (cY 60 n) bs)
 (hK:∀y:pg fr tg tc u x (cY 60 n),y.j=cY 60 n->∀(za:Option aF)(zc zt:Nat)(zu:List aj),Lf y za zc zt zu):ruX (aO aU) tg tc ty u x f n es f6 f7 Lf p m d et dN eu ec ex bs:=by
 have hb:∀j,j<4->1<=m j/\m j<=64:=λj hj=>by rw[hM.n j];exact afI _
 obtain⟨h1,h2⟩:=afV (m:=4) (d:=d) hM.I hM.o hb;have Vb:Py (oz 4 p m d) (n4 m):=⟨h1.code,λj hj=>by
  rw[<-h1.n j hj]
  match j,hj with
  |0,_=>rfl
  |1,_=>rfl
  |2,_=>rfl
  |3,_=>rfl
  |j+4,h=>exact absurd h oM,h1.k⟩
 refine⟨Vb,λp2 k F hN v1 v2=>⟨⟨rfl,by rw[nu],rfl,rfl⟩,λic it b=>⟨⟨_,rfl⟩,?_⟩⟩⟩;have hC:=awY hN (h2 _) (λj hj=>by rw[PD _ _ _ _ hj];exact hb j hj);have h0:=ayt (ev:=Gv dN bs) (ayq (fr:=fr) (F:=F) hC hN.most hN.qZ v1 v2 ic it b);refine⟨⟨rfl,⟨p,m,d,hM,s8 k p2 F ic it b,hN.tg,hN.tc,dN,bs,Ar,ex,ec,et,eu,0,oG _,_,_,by rw[<-hN.eq];exact h0,ag,0,[],pF 46 _⟩,rfl,rfl,rfl⟩,λy g=>?_⟩;refine aN (λe=>ayv y (by simpa using e)) (λe=>⟨agB y.YB y.t_ rfl,y.ok.ok.most,hK y ?_⟩);have h3:¬y.j<cY 60 n:=by simpa using e
 have:=y.hj;omega
end
def agG(K:VK (LG fr)):VK (LG fr):=λv b c=>match v,c with
 |.aD [.raw (.slice x n cc),sv,ev],.br u::.gu m::.hJ bs::.row g::rest=>cond (aC g.z 46&&(bY b.length b&&(dg b.length sv&&dg b.length ev))) (∃(ts:Nat->ai)(vs:Nat->jg),(tj x n cc=.slice g.x g.n g.c/\g.os=(bg g.n).flatMap (jN ts vs)/\(∃tg,b[0]?=aa (fO tg)))/\
  ∀(ty:Nat)(us:List aj),K (.aD [.dB b.length 0 n cc x,sv,ev]) (b++[jf ty 46 g.n (jN ts vs) us]) (.br u::.gu m::.hJ bs::rest)) False
 |_,_=>False
def agH(P:aL)(C:aM)(lp:Nat->List V->Option (Lp (LG fr))):dm (LG fr):=λce bl ch K=>bz (vE lm gS (YI fr P C) Gk Kl lp) 60 19 ce bl (ch++[.row YC]) (bG bl.length (agG K))
def ayx(ht:Body (fr:=fr) 124 dE):aK lm gS (YI fr lm (aO aU)):=
 have n:∀{c:dm (LG fr)},(ah=af->gZ c):=λe=>by cases e
 aK.cons ⟨ax0,λ_=>ax2⟩ (aK.cons ⟨afG (ayl ht),n⟩ (aK.cons ⟨afG (ax9 ht),λ_=>ax8⟩ (aK.cons ⟨agv,λ_=>agw⟩ aK.nil)))
def ayy(ht:Body (fr:=fr) 124 dE)(lp:Nat->List V->Option (Lp (LG fr))):Sound lm gS 19 (agH (fr:=fr) lm (aO aU) lp):=by
 intro ce ap bl ch R ms w0 w K hg hl S hc;have hok:=ayx (fr:=fr) ht;have S0:St ms w0 (lits ap ap bl++ax (ch++[.row YC]) R) w:=by
  rw[k7];exact S
 refine(eO (C:=vE lm gS (YI fr lm (aO aU)) Gk Kl lp) hok.T hok.Q 60 hg hl S0 hc).mono ?_;rintro v w' ⟨x,dl,gt,ii,rfl,h1,S',hK⟩;obtain⟨v2,cj,b,hv,cK,S2,iQ⟩:=ig (n0:=bl.length) h1 (by simp[hl]) S' hK;have q_:(ap++dl).take bl.length=ap:=by rw[<-hl];exact List.take_left
 rw[q_]at hv cK S2;clear hK hc S' S0;unfold agG at iQ;split at iQ
 ·rename_i xx n cc sv ev u m bs g rest;cases hq:aC g.z 46&&(bY b.length b&&(dg b.length sv&&dg b.length ev))with
  |false=>rw[hq]at iQ;exact iQ.elim
  |true=>
   rw[hq]at iQ;obtain⟨ts,vs,⟨e1,e2,tg,e3⟩,Yo⟩:=iQ;simp only[bJ]at hq;obtain⟨_,q1,q2,q3⟩:=hq;have m0:=wV (ap:=ap++cj) (ap++cj) b cK 0 _ e3;have S3:St ms w0 (g.bl++(lits (ap++cj) (ap++cj) b++ax (.br u::.gu m::.hJ bs::rest) R)) w':=by
    refine S2.perm ?_;show lO (_++(cA u++(m.B++(ni bs++(g.bl++ax rest R))))) (_++(_++(cA u++(m.B++(ni bs++ax rest R)))));exact dW λf=>by simp only[ee];omega
   obtain⟨i1,t1,u1,r1,S5⟩:=Yw (g:=jN ts vs) g.h S3 (z0:=(ap++cj).getD 0 0) (tg:=tg) (cs:=ao (ap++cj) (fO tg).c) rfl (by simp only[dV];exact .inl m0) e2;refine⟨_,cj++[i1],_,_,?_,by rw[<-bZ,fH,cK];simp,?_,Yo t1 u1⟩
   ·rw[hv,<-bZ];have g1:(ap++cj++[i1]).getD b.length 0=i1:=by rw[<-cK];simp[gh]
    have d1:=gX (ap:=ap++cj) (dl:=[i1]) sv (by rw[cK];exact q2);have d2:=gX (ap:=ap++cj) (dl:=[i1]) ev (by rw[cK];exact q3);simp only[den,aJ,g1,d1,d2];rw[e1];simp only[Zj]at e1;rw[r1,e1.1,e1.2.1,e1.2.2]
   ·rw[<-bZ,fw _ _ _ _ cK,fy _ _ (by rw[cK];exact q1)];have e4:lits (ap++cj++[i1]) [i1] [jf t1 46 g.n (jN ts vs) u1]=[⟨i1,ah,.cells ((bg g.n).flatMap (jN ts vs)++u1).toArray t1 (0,0)⟩]:=by
     simp only[lits,aI,FT];rfl
    rw[e4];refine S5.perm ?_;exact dW λf=>by simp only[ee,j9,lQ];omega
 ·exact iQ.elim
def YJ:V->Int
 |.int .u8 n=>n
 |_=>0
def ph(h:Nat->Int):List V:=(bg 32).map λi=>.int .u8 (h i)
def KC:List V->Bool
 |[]=>af
 |.int .u8 _::l=>KC l
 |_=>ah
def YK(l:List V):Option (Nat->Int):=bif KC l&&aC l.length 32 then aa (λi=>YJ (nth l i))else ag
def Bo(h:Nat->Int):Nat->Int:=λi=>YJ (nth (ph h) i)
def agI(h:Nat->Int){i:Nat}(hi:i<32):Bo h i=h i:=by
 unfold Bo ph;rw[PC _ _ i i (by rw[pr hi])];rfl
def agJ(ap:List Nat):∀l:List V,KC l=af->ao ap l=(bg l.length).map λi=>fI .u8 (YJ (nth l i))
 |[],_=>rfl
 |v::l,h=>by
  unfold KC at h;split at h
  ·rename_i e;cases e
  ·rename_i n l' e;cases e;rw[jv,ta,gx,lN];simp only[ao,cl,den,agJ ap l h,fe,fu];rfl
  ·cases h
def agK{l:List V}{h:Nat->Int}(e:YK l=aa h)(ap:List Nat):(ao ap l).toArray=aH .u8 32 h:=by
 unfold YK at e;cases hb:KC l&&aC l.length 32 with
 |false=>rw[hb]at e;cases e
 |true=>
  rw[hb]at e;simp only[cond_true,a_]at e;subst e;rw[bJ]at hb;rw[agJ ap l hb.1,cw hb.2];rfl
def agL{f g:Nat->Int}(h:∀i,i<32->f i=g i):aH .u8 32 f=aH .u8 32 g:=by
 have e:(bg 32).map (λi=>fI .u8 (f i))=(bg 32).map λi=>.int .u8 (g i):=mB λi hi=>by rw[h i (List.mem_range.1 hi)]
 exact congrArg List.toArray e
def YL(h:Nat->Int)(ap:List Nat):(ao ap (ph h)).toArray=aH .u8 32 h:=by
 rw[agK (l:=ph h) (h:=Bo h) rfl ap];exact agL λi hi=>agI h hi
def zG(C:aM):QF:=⟨28,λce bl=>match ce,bl with
 |[.agg l,.agg [.int .i64 a,.int .i64 b,.int .i64 c,.int .i64 d,.int .i64 e,.int .i64 f]],⟨ah,⟨tg,(0,0)⟩,rc⟩::_=>(match YK l with
  |some h=>aa (rc=(fO tg).c,.agg (ph (C.next h ⟨a,b,c,d,e,f⟩)))
  |none=>ag)
 |_,_=>ag⟩
def oA:Nat->Option Nat:=λg=>bif aC g 0 then aa 0 else ag
def ayz:(zG (aO aU)).Ok lm oA:=by
 intro ce bl p_ v_ h hp ap w hg hm;unfold zG at h;dsimp only at h;split at h
 ·rename_i l a b c d e f tg rc io;split at h
  ·rename_i hh hr;simp only[a_,bI]at h;obtain⟨rfl,rfl⟩:=h;have h0:=(hg 0 0 rfl).2;have h1:=hm.2 0 _ rfl;rw[h0,hp]at h1;have hG:w.heap[0]?=aa (.cells (aH .u32 64 c9) tg (0,0)):=by
    rw[h1];simp only[fO,ao,cl,cy];rfl
   have:=Ud hh ⟨a,b,c,d,e,f⟩ w hG;have ea:(aJ ap [.agg l,.agg [.int .i64 a,.int .i64 b,.int .i64 c,.int .i64 d,.int .i64 e,.int .i64 f]]).toArray=#[.agg (aH .u8 32 hh),.agg (recC ⟨a,b,c,d,e,f⟩)]:=by
    simp only[aJ,den,agK hr,ao,cl,fe,fu];rfl
   rw[show(aJ ap [.agg l,.agg [.int .i64 a,.int .i64 b,.int .i64 c,.int .i64 d,.int .i64 e,.int .i64 f]]).toArray=_ from ea];refine this.mono ?_;rintro v w' ⟨rfl,cz⟩;refine⟨?_,cz⟩;simp only[den,YL];rfl
  ·cases h
 ·cases h
def nf(C:aM)(l:List Rec):Nat->Int:=l.foldl (λh r=>C.next (Bo h) r) λ_=>0
def ayA(C:aM)(l:List Rec)(r:Rec):nf C (l++[r])=C.next (Bo (nf C l)) r:=by unfold nf;rw[List.foldl_append];rfl
section
variable(C:aM)(tg:aP)(l:List Rec)(n c:Nat)(x:Option aF)(ty:BT)(us:List aj)(K:VK Empty)
def um:List VB:=[fO tg,⟨ah,ty,[.gm 6 n (fZ l),.rest us]⟩]
def YM(j:{j:Nat //j<=n}):List V:=[.ptr 2 0,.ptr 3 0,.dB 1 0 n c x,.int .i64 n,.int .i64 j.1]
def YN(j:{j:Nat //j<=n}):List VB:=um tg l n ty us++[⟨af,⟨46,(0,0)⟩,ph λ_=>0⟩,⟨af,⟨46,(0,0)⟩,ph (nf C (l.take j.1))⟩]
def KD:Lp Empty:=we (X:={j:Nat //j<=n}) (λj=>n-j.1) 17 4 [2,3,6,7,8] (YM n c x) (YN C tg l n ty us) (λ_=>[]) (λ_=>rfl) (λ_=>kR) (λ_=>rfl)
def ofE(j:{j:Nat //j<=n})(h:Nat->Int):Prop:=af=af/\uY (λj:{j:Nat //j<=n}=>n-j.1) (YM n c x) (YN C tg l n ty us) (λ_=>([]:List Empty)) j [.ptr 2 0,.ptr 3 0,.dB 1 0 n c x,.int .i64 n,.int .i64 (i64.wrap ((j.1:Int)+1))] (um tg l n ty us++[⟨af,⟨46,(0,0)⟩,ph λ_=>0⟩,⟨af,⟨46,(0,0)⟩,ph h⟩]) []
def ofX:Prop:=(af=af/\uX (YM n c x) (YN C tg l n ty us) (λ_=>([]:List Empty)) [.ptr 2 0,.ptr 3 0,.dB 1 0 n c x,.int .i64 n,.int .i64 0] (um tg l n ty us++[⟨af,⟨46,(0,0)⟩,ph λ_=>0⟩,⟨af,⟨46,(0,0)⟩,ph λ_=>0⟩]) [])/\
 ∀(j:{j:Nat //j<=n})(g:Nat->aj),cond (decide ((j.1:Int)<(n:Int))) ((0<=(j.1:Int)/\(j.1:Int)<(n:Int))/\((j.1:Int).toNat<n/\∀i,(fZ l i).length=6)/\(fO tg).c=(fO tg).c/\ofE C tg l n c x ty us j (C.next (Bo (nf C (l.take j.1))) (l.getD (j.1:Int).toNat default)))
  (K (.agg (ph (nf C (l.take j.1)))) (um tg l n ty us) [])
def agM:bz (pT lm oA (qL Empty [zG C]) (ja 0 (KD C tg l n c x ty us))) 60 27 [.dB 1 0 n c x] (um tg l n ty us) [] (bG 2 K)=ofX C tg l n c x ty us K:=kR
end
def ayB{l:List Rec}{j:Nat}(h:j<l.length):l.take (j+1)=l.take j++[l.getD j default]:=by
 rw[List.take_add_one,qx,jh h];rfl
def agN{C:aM}{tg:aP}{l:List Rec}{n c:Nat}{x:Option aF}{ty:BT}{us:List aj}{K:VK Empty}(hn:l.length=n)(hb:n<=1000000)(hK:K (.agg (ph (nf C l))) (um tg l n ty us) []):ofX C tg l n c x ty us K:=by
 refine⟨⟨rfl,⟨0,oG _⟩,rfl,rfl,rfl⟩,λj g=>aN (λe=>?_) (λe=>?_)⟩
 ·have dy:j.1<n:=by simpa using e
  have uj:((j.1:Int)).toNat=j.1:=tf _;rw[uj];refine⟨⟨oM,oM⟩,⟨dy,λi=>rfl⟩,rfl,rfl,⟨j.1+1,dy⟩,by show n-(j.1+1)<n-j.1;omega,?_,?_,rfl⟩
  ·rw[lg oM];rfl
  ·rw[<-ayA,<-ayB oM];rfl
 ·have fJ:¬j.1<n:=by simpa using e
  rw[List.take_of_length_le oM];exact hK
def agO:∀(l:List Rec)(h h':Nat->Int),(∀i,i<32->h i=h' i)->∀i,i<32->l.foldl (λh r=>mf (Bo h) r) h i=l.foldl mf h' i
 |[],h,h',e,i,hi=>e i hi
 |r::l,h,h',e,i,hi=>by
  rw[xg,xg];refine agO l _ _ (λi hi=>?_) i hi;have:mf (Bo h) r=mf h' r:=by
   unfold mf;congr 1;funext j;unfold cH;cases hb:dq j 32 with
   |false=>rfl
   |true=>
    have hj:j<32:=by unfold dq at hb;exact eU hb
    simp only[cond_true];rw[agI h hj,e j hj]
  rw[this]
def agP(C:aM)(hC:C.next=mf)(l:List Rec):aH .u8 32 (nf C l)=aH .u8 32 (l.foldl mf λ_=>0):=by
 refine agL λk hk=>?_;unfold nf;rw[hC];exact agO l _ _ (λ_ _=>rfl) k hk
def ayC(i:Nat):Gl oA [0,i]:=by
 intro g j hg;unfold oA at hg;cases hb:aC g 0 with
 |false=>rw[hb]at hg;cases hg
 |true=>rw[hb]at hg;cases hg;exact⟨sP,(cw hb).symm⟩
def ayD{C:aM}(hok:aK (G:=Empty) lm oA (qL Empty [zG C])){w:an}{tg:aP}(hG:w.heap[0]?=aa (.cells (aH .u32 64 c9) tg (0,0)))(l:List Rec)(hb:l.length<=1000000){x:Option aF}{c:Nat}{B:List av}(h:dk 6 64 (gz l) x l.length c B)(hB:∀y∈B,w.heap[y.id]?=aa y.obj):
 ba lm 27 #[.slice x l.length c] w λv w'=>v=.agg (aH .u8 32 (nf C l))/\Ch [] w w':=by
 have key:∃(i:Nat)(ty:BT)(us:List aj),tj x l.length c=.slice (bif aC l.length 0 then x else aa ⟨i,0,ag⟩) l.length c/\w.heap[i]?=aa (.cells ((bg l.length).flatMap (fZ l)++us).toArray ty.t ty.fz):=by
  rcases h.2.2 with⟨rfl,h0,rfl,rfl⟩|⟨b,tail,rfl,rfl,_⟩
  ·refine⟨0,tg,(aH .u32 64 c9).toList,by rw[h0];rfl,?_⟩;rw[hG,h0];rfl
  ·refine⟨b,64,tail,?_,?_⟩
   ·cases aC l.length 0<;>rfl
   ·rw[Dr];exact hB _ xk
 obtain⟨i,ty,us,hv,aV⟩:=key;have S:St [] w (lits [0,i] [0,i] (um tg l l.length ty us)++ax ([]:List Empty) []) w:=by
  refine St.Yj ?_;intro y hy;simp only[um,lits,ax,cy,cG,py,or_false]at hy;rcases hy with rfl|rfl
  ·exact⟨rfl,hG.trans kR⟩
  ·refine⟨rfl,aV.trans ?_⟩;simp only[aI,ao,cl,cy]
 have cT:bz (pT lm oA (qL Empty [zG C]) (ja 0 (KD C tg l l.length c x ty us))) 60 27 [.dB 1 0 l.length c x] (um tg l l.length ty us) [] (bG 2 λv _ _=>v=.agg (ph (nf C l))):=by
  rw[agM];exact agN rfl hb rfl
 have cN:(aJ [0,i] [.dB 1 0 l.length c x]).toArray=#[.slice x l.length c]:=by
  rw[hv];rfl
 rw[<-cN];refine(eO (C:=pT lm oA (qL Empty [zG C]) (ja 0 (KD C tg l l.length c x ty us))) (_root_.Go.Proofs.YtddcipamdggcnaaGreatDoor.aK.TL hok) (_root_.Go.Proofs.YtddcipamdggcnaaGreatDoor.aK.QL hok) 60 (ayC i) rfl S cT).mono ?_;rintro v w' ⟨y,dl,gt,ii,rfl,h1,S',hK⟩;obtain⟨v2,cj,io,uh,-,S2,-,iQ⟩:=ig (n0:=2) h1 sP S' hK;refine⟨?_,S2.ch⟩;rw[uh];simp only[den,YL]
def YO:aK (G:=Empty) lm oA (qL Empty [zG (aO aU)]):=kG (bW.cons ayz bW.nil)
def ofC(C:aM):dm (LG fr):=λce bl ch K=>match ce,ch,bl with
 |[v],.br u::.core g fB::.row r::rest,⟨ah,⟨tg,(0,0)⟩,rc⟩::io=>∃l:List Rec,(v=r.v/\rc=(fO tg).c/\r.T=64/\r.z=6/\r.os=gz l/\r.n=l.length/\l.length<=1000000)/\K (.agg [.cu .u8 32 (l.foldl C.next λ_=>0)]) (⟨ah,⟨tg,(0,0)⟩,rc⟩::io) (.br u::.core g fB::.row r::rest)
 |_,_,_=>False
def k_(C:aM):gZ (ofC (fr:=fr) C):=by
 intro ce bl ch K hc;unfold ofC at hc⊢;split at hc
 ·obtain⟨l,h,hK⟩:=hc;exact⟨l,h,hK,[],sP⟩
 ·exact hc.elim
def KE(P:aL):(bA->V)->Op->List VB->List (LG fr)->VK (LG fr)->Prop:=λe op bl ch K=>match op with
 |.call c=>(match c.callee,c.args.toList,c.argTypes.toList with
  |.builtin .append,[s,xs],[t,tx]=>(match P.underlying t,P.underlying tx with
   |some (.slice T),aa (.slice _)=>(match tP P T,e xs,ch with
    |some (z,ct),.raw (.slice a m cc),.row ⟨T',z',os,x,n,c0,bk,h⟩::rest=>cond (aC T' T&&(aC z' z&&ck ct 10000000))
     (∃(ry:List aj)(b2:List av),(dk z T ry a m cc b2/\(∀v∈ry,v.oneCell'=af)/\e s=.raw (.slice x n c0)/\(∀y∈b2,y∈ax rest [])/\n+m<=1000000)/\
      ∀(x':Option aF)(c':Nat)(bk':List av)(h':dk z T (os++ry) x' (n+m) c' bk'),K (.raw (.slice x' (n+m) c')) bl (.row ⟨T,z,os++ry,x',n+m,c',bk',h'⟩::rest)) False
    |_,_,_=>False)
   |_,_=>False)
  |_,_,_=>False)
 |_=>False
def YP{P:aL}{gl:Nat->Option Nat}:iF P gl (KE (fr:=fr) P):=by
 intro e op ap bl ch R ms w0 w K ρ o hg hl S bo ho h;unfold KE at h;split at h
 ·rename_i c;split at h
  ·rename_i s xs t tx fc cN dX;split at h
   ·rename_i T T2 ht gj;split at h
    ·rename_i z ct a m cc T' z' os x n c0 bk h0 rest cE fV;cases hq:aC T' T&&(aC z' z&&ck ct 10000000)with
     |false=>rw[hq]at h;exact h.elim
     |true=>
      rw[hq]at h;simp only[bJ]at hq;obtain⟨q1,q2,q3⟩:=hq;obtain rfl:=cw q1;obtain rfl:=cw q2;have q3:=eU q3;obtain⟨ry,b2,⟨h2,mK,hs,fW,hn⟩,hK⟩:=h;have aV:∀y∈b2,w.heap[y.id]?=aa y.obj:=λy hy=>S.at' (by
       refine oF _ ?_;show y∈bk++ax rest R;rw[fk R rest];exact oF _ (kB _ (fW y hy)))
      have fh:Src P z' tx (.slice a m cc) m ry w:=by
       rcases h2.2.2 with⟨rfl,rfl,rfl,rfl⟩|⟨b,tail,rfl,rfl,ip⟩
       ·have:ry=[]:=kX (by rw[h2.1];simp);subst this;exact Src.ofNil w gj 0
       ·refine qu w gj ⟨b,0,ag⟩ m cc _ h2.1 (λj u hj=>?_) mK;rw[iY,cell_of (aV _ (List.mem_singleton_self _)),d_];have JX:j<ry.length:=by
         rcases di j ry.length with h|h
         ·exact h
         ·rw[jA h]at hj;cases hj
        rw[j7,gB JX];exact hj
      have hi:=EI cE;have e1:lits ap ap bl++ax (.row ⟨T',z',os,x,n,c0,bk,h0⟩::rest) R=lits ap ap bl++(bk++ax rest R):=rfl;rw[e1]at S;have iM:(n+m)*ct<=140737488355328:=h_ (Nat.mul_le_mul hn q3) dC;obtain⟨v,w',b_,hc,x',c',gt,rfl,gi,n5⟩:=BN (P:=P) (ty:=o.type) h0 (λy hy=>S.at' (by simp[hy])) ct fh ht hi iM (h_ hn dC);have S2:=S.uG h0.wr hc (λy hy=>(n5 y hy).1) (λy hy=>(n5 y hy).2) gi.pw;refine⟨_,[],bl,_,w',.inl ?_,by simpa using hl,?_,hK x' c' gt gi⟩
      ·obtain⟨mJ,ar,iO⟩:=c;simp only at fc cN dX;have e2:ar=#[s,xs]:=by rw[<-cN]
       have e3:iO=#[t,tx]:=by rw[<-dX]
       subst fc e2 e3;have:=jU (P:=P) (ρ:=ρ) (o:=o) ho (sv:=.slice x n c0) (xv:=.slice a m cc) (by rw[bo,hs];simp only[den]) (by rw[bo,fV];simp only[den]) b_;simpa[den]using this
      ·rw[cy];exact S2
    ·exact h.elim
   ·exact h.elim
  ·exact h.elim
 ·exact h.elim
def Bp(C:aM):dm (LG fr):=λce bl ch K=>match ce,ch with
 |[v],.row r::rest=>∃l:List Rec,((∃tg,bl[0]?=aa (fO tg))/\v=r.v/\r.T=64/\r.z=6/\r.os=gz l/\r.n=l.length/\l.length<=1000000)/\K (.agg [.cu .u8 32 (l.foldl C.next λ_=>0)]) bl (.row r::rest)
 |_,_=>False
def ayE:Sound lm oA 27 (Bp (fr:=fr) (aO aU)):=by
 intro ce ap bl ch R ms w0 w K hg hl S hc;unfold Bp at hc;split at hc
 ·rename_i v r rest;obtain⟨l,⟨⟨tg,e0⟩,rfl,hT,hz,yN,hn,hb⟩,hK⟩:=hc;have h0:=(hg 0 0 rfl).2;have h1:=(gp hl S e0).2;rw[h0]at h1;have hG:w.heap[0]?=aa (.cells (aH .u32 64 c9) tg (0,0)):=by
   rw[h1];simp only[fO,ao,cl,cy];rfl
  have hr:=r.h;rw[hT,hz,yN,hn]at hr;have:=ayD YO hG l hb hr (λy hy=>S.at' (by
   refine oF _ ?_;show y∈r.bl++ax rest R;exact kB _ hy))
  rw[agP _ rfl]at this;have ea:(aJ ap [r.v]).toArray=#[.slice r.x l.length r.c]:=by
   simp only[bD.v,aJ,den,hn]
  rw[ea];refine this.mono ?_;rintro v w' ⟨rfl,cz⟩;refine⟨.agg [.cu .u8 32 (l.foldl mf λ_=>0)],[],_,_,?_,by simpa using hl,by simpa using S.quiet cz,hK⟩;simp only[den,ao,cl,cy];rfl
 ·exact hc.elim
def ayF(C:aM):gZ (Bp (fr:=fr) C):=by
 intro ce bl ch K hc;unfold Bp at hc⊢;split at hc
 ·obtain⟨l,h,hK⟩:=hc;exact⟨l,h,hK,[],sP⟩
 ·exact hc.elim
def dQ(ts:Nat->ai)(k:Nat):List Rec:=(bg k).flatMap λi=>(ts i).aY
def YQ:∀(a b:List Rec),gz (a++b)=gz a++gz b
 |[],b=>rfl
 |r::a,b=>by
  show(recC r).toList++gz (a++b)=((recC r).toList++gz a)++gz b;rw[YQ a b,bZ]
structure DM(ts:Nat->ai)(k:Nat) where
 j:Nat
 hj:j<=k
 x:Option aF
 c:Nat
 bk:List av
 h:dk 6 64 (gz (dQ ts j)) x (dQ ts j).length c bk
def PY:bD:=⟨64,6,[],ag,0,0,[],pF 6 _⟩
def KG(x:Option aF)(n c:Nat):VB:=⟨af,⟨104,(0,0)⟩,[.raw (.slice x n c)]⟩
section
variable(C:aM)(tg:aP)(ty:BT)(m:eY fr)(ts:Nat->ai)(vs:Nat->jg)(n k c:Nat)(x:Option aF)(us:List aj)
def zH:List VB:=[fO tg,⟨ah,ty,[.gm 46 n (jN ts vs),.rest us]⟩]
def KH(j:Int):List V:=[.ptr 2 0,.ptr 3 0,.dB 1 0 k c x,.int .i64 k,.int .i64 j]
def KI(l:VB):List VB:=zH tg ty ts vs n us++[⟨af,⟨46,(0,0)⟩,ph λ_=>0⟩,l]
def YR(y:DM ts k):List VB:=KI tg ty ts vs n us (KG y.x (dQ ts y.j).length y.c)
def YS(y:DM ts k):List (LG fr):=[.row ⟨64,6,gz (dQ ts y.j),y.x,(dQ ts y.j).length,y.c,y.bk,y.h⟩,.gu m]
def YT:Lp (LG fr):=we (X:=DM ts k) (λy=>k-y.j) 22 4 [3,4,7,8,9] (λy=>KH k c x y.j) (YR tg ty ts vs n k us) (YS m ts k) (λ_=>rfl) (λ_=>kR) (λ_=>rfl)
def agQ(y:DM ts k):Prop:=
 let j:=(y.j:Int).toNat
 (0<=(y.j:Int)/\(y.j:Int)<(k:Int))/\(j<n/\∀i,(jN ts vs i).length=46)/\∃(ry:List aj)(b2:List av),(dk 6 64 ry (vs j).x2 (ts j).aY.length (vs j).c2 b2/\(∀v∈ry,v.oneCell'=af)/\V.raw (.slice y.x (dQ ts y.j).length y.c)=V.raw (.slice y.x (dQ ts y.j).length y.c)/\(∀b∈b2,b∈ax [LG.gu m] [])/\(dQ ts y.j).length+(ts j).aY.length<=1000000)/\
  ∀(x':Option aF)(c':Nat)(bk:List av)(h:dk 6 64 (gz (dQ ts y.j)++ry) x' ((dQ ts y.j).length+(ts j).aY.length) c' bk),
   af=af/\uY (λy=>k-y.j) (λy=>KH k c x y.j) (YR tg ty ts vs n k us) (YS m ts k) y (KH k c x (i64.wrap ((y.j:Int)+1))) (KI tg ty ts vs n us (KG x' ((dQ ts y.j).length+(ts j).aY.length) c')) [.row ⟨64,6,gz (dQ ts y.j)++ry,x',(dQ ts y.j).length+(ts j).aY.length,c',bk,h⟩,.gu m]
variable(K:VK (LG fr))
def ayG(y:DM ts k):Prop:=
 let r:bD:=⟨64,6,gz (dQ ts y.j),y.x,(dQ ts y.j).length,y.c,y.bk,y.h⟩
 ∃l:List Rec,((∃t,aa (fO tg)=aa (fO t))/\V.raw (.slice y.x (dQ ts y.j).length y.c)=r.v/\r.T=64/\r.z=6/\r.os=gz l/\r.n=l.length/\l.length<=1000000)/\
  K (.aD [.raw (.slice y.x (dQ ts y.j).length y.c),.agg [.cu .u8 32 (l.foldl C.next λ_=>0)]]) (zH tg ty ts vs n us) [.row r,.gu m]
def trX:Prop:=(af=af/\uX (λy:DM ts k=>KH k c x y.j) (YR tg ty ts vs n k us) (YS m ts k) (KH k c x 0) (KI tg ty ts vs n us (KG ag 0 0)) [.row PY,.gu m])/\
 ∀(y:DM ts k)(g:Nat->aj),cond (decide ((y.j:Int)<(k:Int))) (agQ tg ty m ts vs n k c x us y) (ayG C tg ty m ts vs n k us K y)
def ayH:bz (vE lm oA [⟨27,af,Bp C⟩] (KE lm) YP (λi _=>ja 0 (YT tg ty m ts vs n k c x us) i)) 60 22 [.dB 1 0 k c x] (zH tg ty ts vs n us) [.row PY,.gu m] (bG 2 K)=trX C tg ty m ts vs n k c x us K:=kR
end
def ayI{T z n n' c:Nat}{os os':List aj}{x:Option aF}{bk:List av}(e:os=os')(e2:n=n')(h:dk z T os x n c bk):(⟨T,z,os,x,n,c,bk,h⟩:bD)=⟨T,z,os',x,n',c,bk,by subst e e2;exact h⟩:=by subst e e2;rfl
def PZ(ts:Nat->ai)(k:Nat):dQ ts (k+1)=dQ ts k++(ts k).aY:=by
 unfold dQ;rw[vK,vL,List.flatMap_cons,List.flatMap_nil,cy]
def YU{ts:Nat->ai}:∀k,(∀j,j<k->(ts j).aY.length<=10000)->(dQ ts k).length<=10000*k
 |0,_=>cW 0
 |k+1,h=>by
  rw[PZ,fH];have:=YU k λj hj=>h j oM;have:=h k oM;omega
def agR:∀(l:List Rec),∀v∈gz l,v.oneCell'=af
 |[],v,h=>by cases h
 |r::l,v,h=>by
  rcases dV.1 (show v∈(recC r).toList++gz l from h)with h|h
  ·have:v=.int .i64 r.kind\/v=.int .i64 r.source\/v=.int .i64 r.seq\/v=.int .i64 r.au\/v=.int .i64 r.code\/v=.int .i64 r.how:=by simpa[recC]using h
   rcases this with rfl|rfl|rfl|rfl|rfl|rfl<;>rfl
  ·exact agR l v h
section
variable{C:aM}{tg:aP}{ty:BT}{m:eY fr}{ts:Nat->ai}{vs:Nat->jg}{n k c:Nat}{x:Option aF}{us:List aj}{K:VK (LG fr)}
def ayJ(kS:k<=n)(hn:n<=60)(ht:∀j,j<n->zF fr (ts j) (vs j) m.fB/\(ts j).aY.length<=10000)(hK:∀(x':Option aF)(c':Nat)(bk:List av)(h:dk 6 64 (gz (dQ ts k)) x' (dQ ts k).length c' bk),
 K (.aD [.raw (.slice x' (dQ ts k).length c'),.agg [.cu .u8 32 ((dQ ts k).foldl C.next λ_=>0)]]) (zH tg ty ts vs n us) [.row ⟨64,6,gz (dQ ts k),x',(dQ ts k).length,c',bk,h⟩,.gu m]):trX C tg ty m ts vs n k c x us K:=by
 refine⟨⟨rfl,⟨0,oG _,ag,0,[],pF 6 _⟩,rfl,rfl,rfl⟩,λy g=>?_⟩;have hj:=y.hj;have hl:=YU (ts:=ts) y.j λi hi=>(ht i oM).2;refine aN (λe=>?_) (λe=>?_)
 ·have h1:y.j<k:=by simpa using e
  have uj:=Bm y.j;unfold agQ;rw[uj];obtain⟨hr,hrl⟩:=ht y.j oM;obtain⟨b,iM,fW⟩:=hr.r;rw[Dr]at iM;refine⟨⟨oM,oM⟩,⟨oM,λi=>agy ts vs i⟩,gz (ts y.j).aY,b,⟨iM,agR _,rfl,λq hq=>?_,oM⟩,λx' c' bk h=>⟨rfl,?_⟩⟩
  ·show q∈m.B++[];rw[cy];exact oF _ (oF _ (kB _ (fW q hq)))
  ·have e1:gz (dQ ts y.j)++gz (ts y.j).aY=gz (dQ ts (y.j+1)):=by rw[PZ,YQ]
   have e2:(dQ ts y.j).length+(ts y.j).aY.length=(dQ ts (y.j+1)).length:=by rw[PZ,fH]
   refine⟨⟨y.j+1,h1,x',c',bk,by rw[<-e1,<-e2];exact h⟩,by show k-(y.j+1)<k-y.j;omega,?_,?_,?_⟩
   ·rw[lg oM];rfl
   ·show KI tg ty ts vs n us (KG x' ((dQ ts y.j).length+(ts y.j).aY.length) c')=KI tg ty ts vs n us (KG x' (dQ ts (y.j+1)).length c');rw[e2]
   ·show[LG.row _,LG.gu m]=[LG.row _,LG.gu m];rw[ayI e1 e2 h]
 ·have h1:¬y.j<k:=by simpa using e
  obtain⟨j,mF,x',c',bk,h⟩:=y;simp only at h1 hj hl;obtain rfl:j=k:=oM;exact⟨dQ ts j,⟨⟨tg,rfl⟩,rfl,rfl,rfl,rfl,rfl,oM⟩,hK x' c' bk h⟩
end
def KJ(C:aM):dm (LG fr):=λce bl ch K=>match ce,ch with
 |[.dB i 0 k c x],.br u::.gu m::rest=>(match bl[i]?with
  |some ⟨ah,ty,[.gm 46 n g,.rest us]⟩=>cond (bY bl.length bl) (∃(ts:Nat->ai)(vs:Nat->jg),(g=jN ts vs/\k<=n/\n<=60/\(∃tg,bl[0]?=aa (fO tg))/\∀j,j<n->zF fr (ts j) (vs j) m.fB/\(ts j).aY.length<=10000)/\
   ∀(x':Option aF)(c' sV:Nat)(YV:List aj),(dQ ts k).length<=c'->K (.aD [.dB bl.length 0 (dQ ts k).length c' x',.agg [.cu .u8 32 ((dQ ts k).foldl C.next λ_=>0)]]) (bl++[jf sV 6 (dQ ts k).length (fZ (dQ ts k)) YV]) (.br u::.gu m::rest)) False
  |_=>False)
 |_,_=>False
def agS(i:Nat):Gl oA [0,i]:=by
 intro g j hg;unfold oA at hg;cases hb:aC g 0 with
 |false=>rw[hb]at hg;cases hg
 |true=>rw[hb]at hg;cases hg;exact⟨sP,(cw hb).symm⟩
def ayK:Sound lm gS 22 (KJ (fr:=fr) (aO aU)):=by
 intro ce ap bl ch R ms w0 w K hg hl S hc;unfold KJ at hc;split at hc
 ·rename_i i k c x u m rest;split at hc
  ·rename_i ty n g us hb;cases hq:bY bl.length bl with
   |false=>rw[hq]at hc;exact hc.elim
   |true=>
    rw[hq]at hc;obtain⟨ts,vs,⟨rfl,kS,hn,⟨tg,e0⟩,ht⟩,hK⟩:=hc;have m1:=wV (ap:=ap) ap bl hl i _ hb;have m0:=wV (ap:=ap) ap bl hl 0 _ e0;have g0:=(hg 0 0 rfl).2;rw[g0]at m0;generalize BO:ap.getD i 0=bi at m1;have q0:aI ap 0 (fO tg)=aI [0,bi] 0 (fO tg):=jL rfl;have q1:aI ap bi ⟨ah,ty,[.gm 46 n (jN ts vs),.rest us]⟩=aI [0,bi] bi ⟨ah,ty,[.gm 46 n (jN ts vs),.rest us]⟩:=jL (b:=⟨ah,ty,[.gm 46 n (jN ts vs),.rest us]⟩) rfl;have S1:St ms w0 (lits [0,bi] [0,bi] (zH tg ty ts vs n us)++ax [LG.row (fr:=fr) PY,.gu m] (lits ap ap bl++(cA u++ax rest R))) w:=by
     have Sa:=(S.dup (kB _ m1) rfl).dup (qA _ (kB _ m0)) rfl;rw[q0,q1]at Sa;refine Sa.perm ?_;show lO (_::_::(lits ap ap bl++(cA u++(m.B++ax rest R)))) ([_,_]++([]++(m.B++(lits ap ap bl++(cA u++ax rest R)))));exact dW λf=>by simp only[ee,j9,lQ];omega
    have cT:bz (vE lm oA [⟨27,af,Bp (fr:=fr) (aO aU)⟩] (KE lm) YP (λi _=>ja 0 (YT tg ty m ts vs n k c x us) i)) 60 22 [.dB 1 0 k c x] (zH tg ty ts vs n us) [.row PY,.gu m]
     (bG 2 λv b ch=>∃(x':Option aF)(c':Nat)(bk:List av)(h:dk 6 64 (gz (dQ ts k)) x' (dQ ts k).length c' bk),v=.aD [.raw (.slice x' (dQ ts k).length c'),.agg [.cu .u8 32 ((dQ ts k).foldl mf λ_=>0)]]/\b=zH tg ty ts vs n us/\ch=[.row ⟨64,6,gz (dQ ts k),x',(dQ ts k).length,c',bk,h⟩,.gu m]):=by
     rw[ayH];exact ayJ kS hn ht λx' c' bk h=>⟨x',c',bk,h,rfl,rfl,rfl⟩
    have cN:aJ ap [.dB i 0 k c x]=aJ [0,bi] [.dB 1 0 k c x]:=by
     simp only[aJ,den,BO];rfl
    rw[cN];have hok:aK (G:=LG fr) lm oA [⟨27,af,Bp (fr:=fr) (aO aU)⟩]:=aK.cons ⟨ayE,λ_=>ayF _⟩ aK.nil;refine(eO (C:=vE lm oA [⟨27,af,Bp (fr:=fr) (aO aU)⟩] (KE lm) YP (λi _=>ja 0 (YT tg ty m ts vs n k c x us) i)) hok.T hok.Q 60 (agS bi) rfl S1 cT).mono ?_;rintro v w' ⟨y,dl,gt,ii,rfl,h1,S',sd⟩;obtain⟨v2,cj,io,hv,cK,S2,x',c',bk,h,rfl,rfl,rfl⟩:=ig (n0:=2) h1 sP S' sd;obtain rfl:cj=[]:=kX (by simpa[zH]using cK);have q_:([0,bi]++dl).take 2=[0,bi]:=rfl;rw[q_,cy]at S2;rw[q_]at hv;have S3:St ms w0 (bk++(lits ap ap bl++(cA u++(m.B++ax rest R)))) w':=by
     have S4:St ms w0 (lits [0,bi] [0,bi] (zH tg ty ts vs n us)++(bk++(m.B++(lits ap ap bl++(cA u++ax rest R))))) w':=S2;refine(S4.sub (kM _ _)).perm ?_;exact dW λf=>by simp only[ee];omega
    have m0':=wV (ap:=ap) ap bl hl 0 _ e0;obtain⟨i1,t1,u1,r1,S5⟩:=Yw (g:=fZ (dQ ts k)) h S3 (z0:=ap.getD 0 0) (tg:=tg) (cs:=ao ap (fO tg).c) rfl (by simp only[dV];exact .inl m0') (Dr _).symm;refine⟨_,[i1],_,_,?_,by simp[hl],?_,hK x' c' t1 u1 h.2.1⟩
    ·rw[hv];have e1:(ap++[i1]).getD bl.length 0=i1:=by rw[<-hl];simp[gh]
     simp only[den,aJ,ao,cl,e1];rw[r1];rfl
    ·have e2:lits (ap++[i1]) [i1] [jf t1 6 (dQ ts k).length (fZ (dQ ts k)) u1]=[⟨i1,ah,.cells ((bg (dQ ts k).length).flatMap (fZ (dQ ts k))++u1).toArray t1 (0,0)⟩]:=by
      simp only[lits,aI,FT];rfl
     rw[fw _ _ _ _ hl,fy _ _ (by rw[hl];exact hq),e2];refine S5.perm ?_;show lO _ ((lits ap ap bl++[_])++(cA u++(m.B++ax rest R)));exact dW λf=>by simp only[ee,j9,lQ];omega
  ·exact hc.elim
 ·exact hc.elim
def ayL(C:aM):gZ (KJ (fr:=fr) C):=by
 intro ce bl ch K hc;unfold KJ at hc⊢;split at hc
 ·split at hc
  ·revert hc;cases bY bl.length bl with
   |false=>exact λh=>h.elim
   |true=>
    rintro⟨ts,vs,h,hK⟩;exact⟨ts,vs,h,λx' c' sV YV hc=>⟨hK x' c' sV YV hc,_,rfl⟩⟩
  ·exact hc.elim
 ·exact hc.elim
end
end Go.Proofs.YtddcipamdggcnaaGreatDoor
namespace Sd
structure ayM(C:aM)(s s':ai):Prop where
 head:s'.c.head=s'.aY.foldl C.next s.c.head
 lo:∀r∈s'.aY,s.c.t.au<=r.au
 hi:∀r∈s'.aY,r.au<=s'.c.t.au
 up:s'.aY.Pairwise λa b=>a.au<=b.au
 ep:s.c.t.au<=s'.c.t.au
def YW{l:List Rec}{e:Int}(h:∀r∈l,r.au=e):l.Pairwise λa b=>a.au<=b.au:=by
 refine List.pairwise_of_forall_mem_list λa ha b hb=>?_;rw[h a ha,h b hb];exact uy _
def ayN{C:aM}{b:Prop}{s s':ai}{k l:Int}(h:gb C b s s' k l)(hr:s.aY=[]):ayM C s s':=by
 rcases h.AL with q|⟨how,g,w⟩
 ·obtain⟨rs,r1,r2,r3⟩:=q.aY;rw[hr,fu]at r1;have he:∀r∈s'.aY,r.au=s.c.t.au:=λr h=>by rw[r1]at h;exact(r2 r h).2.1
  refine⟨by rw[r1];exact r3,λr h=>by rw[he r h];exact uy _,λr h=>by rw[he r h,q.au];exact uy _,YW he,by rw[q.au];exact uy _⟩
 ·obtain⟨f6,n,f7,q1,q2,q3,q4,q5⟩:=g.aY;rw[hr,fu]at q1;have hle:s.c.t.au<=s'.c.t.au:=by rcases g.au with⟨_,e⟩|⟨e1,e2,_⟩<;>omega
  have hx:∀r∈s'.aY,(r∈f6/\r.au=s.c.t.au)\/r.au=s'.c.t.au:=by
   intro r hm;rw[q1]at hm;rcases dV.1 hm with hm|hm
   ·exact .inl ⟨hm,(q2 r hm).2.1⟩
   ·rcases cG.1 hm with rfl|hm
    ·exact .inr rfl
    ·exact .inr (q4 r hm).2.1
  refine⟨by rw[q1];exact q5,λr h=>?_,λr h=>?_,?_,hle⟩
  ·rcases hx r h with⟨_,e⟩|e<;>omega
  ·rcases hx r h with⟨_,e⟩|e<;>omega
  ·rw[q1];have hp:∀r∈(⟨8,s'.c.t.aS,n,s'.c.t.au,0,how⟩::f7:List Rec),r.au=s'.c.t.au:=by
    intro r hm;rcases cG.1 hm with rfl|hm
    ·rfl
    ·exact(q4 r hm).2.1
   refine DQ.2 ⟨YW λr h=>(q2 r h).2.1,YW hp,λa ha b hb=>?_⟩;rw[(q2 a ha).2.1,hp b hb];exact hle
end Sd
namespace Sd
variable{C:aM}{crc:az->Nat->Int}
structure nI(C:aM)(e0:Int)(h0:az)(S:ai):Prop where
 inv:Inv S.c
 head:S.c.head=S.aY.foldl C.next h0
 rb:∀r∈S.aY,oV True r
 lo:∀r∈S.aY,e0<=r.au
 hi:∀r∈S.aY,r.au<=S.c.t.au
 up:S.aY.Pairwise λa b=>a.au<=b.au
 ep:e0<=S.c.t.au
def nI.bare{s:ai}(h:Inv s.c):nI C s.c.t.au s.c.head s.bare:=⟨h,rfl,(λr hr=>nomatch hr),(λr hr=>nomatch hr),(λr hr=>nomatch hr),ag5,uy _⟩
def ayO{b:Prop}{s s':ai}{k l:Int}(h:gb C b s s' k l)(hr:s.aY=[]):∀r∈s'.aY,oV b r:=by
 rcases h.AL with q|⟨how,g,w⟩
 ·obtain⟨rs,r1,r2,r3⟩:=q.aY;rw[hr,fu]at r1;intro r hm;rw[r1]at hm;exact(r2 r hm).2.2
 ·obtain⟨f6,n,f7,q1,q2,q3,q4,q5⟩:=g.aY;rw[hr,fu]at q1;intro r hm;rw[q1]at hm;rcases dV.1 hm with hm|hm
  ·exact(q2 r hm).2.2
  ·rcases cG.1 hm with rfl|hm
   ·exact q3
   ·exact(q4 r hm).2.2
def nI.glue{e0 e1:Int}{h0 h1:az}{S s':ai}(h:nI C e0 h0 S)(k:nI C e1 h1 s')(he:e1=S.c.t.au)(hh:h1=S.c.head):nI C e0 h0 (S.glue s'):=by
 subst he hh;refine⟨k.inv,?_,?_,?_,?_,?_,vM h.ep k.ep⟩
 ·show s'.c.head=(S.aY++s'.aY).foldl C.next h0;rw[List.foldl_append,<-h.head];exact k.head
 ·intro r hr;rcases dV.1 hr with hr|hr
  ·exact h.rb r hr
  ·exact k.rb r hr
 ·intro r hr;rcases dV.1 hr with hr|hr
  ·exact h.lo r hr
  ·exact vM h.ep (k.lo r hr)
 ·intro r hr;rcases dV.1 hr with hr|hr
  ·exact vM (h.hi r hr) k.ep
  ·exact k.hi r hr
 ·exact DQ.2 ⟨h.up,k.up,λa ha b hb=>vM (h.hi a ha) (k.lo b hb)⟩
def nI.P1{S s':ai}{k l:Int}(hE:gb C True S.bare s' k l):nI C S.c.t.au S.c.head s':=by
 have hH:=ayN hE rfl;exact⟨hE.1,hH.head,ayO hE rfl,hH.lo,hH.hi,hH.up,hH.ep⟩
def ayP(n:Nat)(f:az):(dZ crc n f).kind=3->0<=(dZ crc n f).code/\(dZ crc n f).code<=255:=by
 unfold dZ
 repeat' split
 all_goals first|(intro _;exact⟨dC,dC⟩)|(intro _;exact⟨(by show(0:Int)<=0;decide),(by show(0:Int)<=255;decide)⟩)
def agT:∀(k n:Nat)(f:az),∀i∈(iW crc k n f).1,0<=i.code/\i.code<=255
 |0,n,f,i,h=>nomatch h
 |k+1,n,f,i,h=>by
  unfold iW at h;dsimp only at h;split at h
  ·exact nomatch h
  ·rcases dV.1 h with h|h
   ·unfold ug at h;split at h
    ·obtain rfl:=jS.1 h;exact⟨by show(0:Int)<=0;decide,by show(0:Int)<=255;decide⟩
    ·split at h
     ·rename_i h3;obtain rfl:=jS.1 h;exact ayP n f h3
     ·exact nomatch h
   ·exact agT k _ _ i h
def agU(hC:AN C){e0 l:Int}{h0:az}(hl:1<=l/\l<=3):∀(fF:List It)(S:ai),(∀i∈fF,0<=i.code/\i.code<=255)->nI C e0 h0 S->nI C e0 h0 (ui C l fF S)
 |[],S,_,hS=>hS
 |i::fF,S,hi,hS=>by
  refine agU hC hl fF _ (λj hj=>hi j (qA _ hj)) ?_;exact hS.glue (nI.P1 (Un (b:=True) (s:=S.bare) hC hS.inv hl λ_=>hi i xk)) rfl rfl
def ayQ(hC:AN C)(m:dU)(ev:Ev)(h:Inv m.s.c):nI C m.s.c.t.au m.s.c.head (m.go C crc ev).s:=by
 have hb:nI C m.s.c.t.au m.s.c.head m.s.bare:=.bare h;unfold dU.go;split
 ·split
  ·rename_i hl;exact agU hC hl _ _ (agT _ _ _) hb
  ·exact hb
 split
 ·exact nI.P1 (WN (b:=True) (s:=m.s.bare.bare) h)
 split
 ·exact nI.P1 (WO (b:=True) (s:=m.s.bare.bare) h)
 split
 ·exact nI.P1 (WT (b:=True) (s:=m.s.bare.bare) h).1
 ·exact hb
def runT(C:aM)(crc:az->Nat->Int)(m:dU)(ev:Nat->Ev)(j:Nat):List Rec:=(bg j).flatMap λi=>(m.run C crc ev (i+1)).s.aY
def agV(m:dU)(ev:Nat->Ev)(j:Nat):runT C crc m ev (j+1)=runT C crc m ev j++(m.run C crc ev (j+1)).s.aY:=by
 unfold runT;rw[vK,vL,List.flatMap_cons,List.flatMap_nil,cy]
def agW(hC:AN C){m:dU}(ev:Nat->Ev)(h:Inv m.s.c)(hr:m.s.aY=[]):∀j,nI C m.s.c.t.au m.s.c.head ⟨(m.run C crc ev j).s.c,[],runT C crc m ev j⟩
 |0=>⟨h,rfl,(λr hr=>nomatch hr),(λr hr=>nomatch hr),(λr hr=>nomatch hr),ag5,uy _⟩
 |j+1=>by
  have ih:=agW hC ev h hr j;have hg:=ayQ (crc:=crc) hC (m.run C crc ev j) (ev j) ih.inv;have hs:=ih.glue hg rfl rfl;have e:(⟨(m.run C crc ev (j+1)).s.c,[],runT C crc m ev (j+1)⟩:ai)=⟨((⟨(m.run C crc ev j).s.c,[],runT C crc m ev j⟩:ai).glue ((m.run C crc ev j).go C crc (ev j)).s).c,[],((⟨(m.run C crc ev j).s.c,[],runT C crc m ev j⟩:ai).glue ((m.run C crc ev j).go C crc (ev j)).s).aY⟩:=by
   rw[agV];rfl
  rw[e];exact⟨hs.inv,hs.head,hs.rb,hs.lo,hs.hi,hs.up,hs.ep⟩
end Sd
namespace Go.Proofs.YtddcipamdggcnaaGreatDoor
def Gx{x:Int}(h:0<=x/\x<=4294967295):u64.wrap x=x:=by simp[vH,td,te];omega
def ayR(x:Int)(k:Nat):u8.wrap (il x (2^k))=x/2^k%256:=by
 rw[Int.fdiv_eq_ediv_of_nonneg _ (Int.le_of_lt (Int.pow_pos dC))];simp[vH,td,te]
def agX{r:Rec}(h:oV True r):dO r 0=r.kind/\dO r 1=r.source/\dO r 2=r.seq/16777216/\dO r 3=r.seq/65536%256/\dO r 4=r.seq/256%256/\dO r 5=r.seq%256/\dO r 6=r.au/256/\dO r 7=r.au%256/\dO r 8=r.code/\dO r 9=r.how:=by
 have h1:=h.kind;have h2:=h.source;have h3:=h.seq;have h4:=h.au;have h5:=h.code trivial;have h6:=h.how
 have w1:=Gx (x:=r.kind) oM;have w2:=Gx (x:=r.source) oM;have w3:=Gx (x:=r.seq) oM;have w4:=Gx (x:=r.au) oM;have w5:=Gx (x:=r.code) oM;have w6:=Gx (x:=r.how) oM;have e0:dO r 0=u8.wrap (il (u64.wrap r.kind%256) (2^0)):=rfl;have e1:dO r 1=u8.wrap (il (u64.wrap r.source%256) (2^0)):=rfl;have e2:dO r 2=u8.wrap (il (u64.wrap r.seq%4294967296) (2^24)):=rfl;have e3:dO r 3=u8.wrap (il (u64.wrap r.seq%4294967296) (2^16)):=rfl;have e4:dO r 4=u8.wrap (il (u64.wrap r.seq%4294967296) (2^8)):=rfl;have e5:dO r 5=u8.wrap (il (u64.wrap r.seq%4294967296) (2^0)):=rfl;have e6:dO r 6=u8.wrap (il (u64.wrap r.au%65536) (2^8)):=rfl;have e7:dO r 7=u8.wrap (il (u64.wrap r.au%65536) (2^0)):=rfl;have e8:dO r 8=u8.wrap (il (u64.wrap r.code%256) (2^0)):=rfl;have e9:dO r 9=u8.wrap (il (u64.wrap r.how%256) (2^0)):=rfl;rw[e0,e1,e2,e3,e4,e5,e6,e7,e8,e9];simp only[ayR,w1,w2,w3,w4,w5,w6];refine⟨oM,oM,oM,oM,oM,oM,oM,oM,oM,oM⟩
def ayS{a b:Rec}(ha:oV True a)(hb:oV True b)(h:∀i,i<10->dO a i=dO b i):a=b:=by
 obtain⟨a0,a1,a2,a3,a4,a5,a6,a7,a8,a9⟩:=agX ha;obtain⟨b0,b1,b2,b3,b4,b5,b6,b7,b8,b9⟩:=agX hb;have e0:=h 0 dC;have e1:=h 1 dC;have e2:=h 2 dC;have e3:=h 3 dC;have e4:=h 4 dC
 have e5:=h 5 dC;have e6:=h 6 dC;have e7:=h 7 dC;have e8:=h 8 dC;have e9:=h 9 dC
 have sa:=ha.seq;have sb:=hb.seq;have pa:=ha.au;have pb:=hb.au
 obtain⟨ak,ar,aq,ae,ac,aw⟩:=a;obtain⟨bk,bs,bq,be,bc,bw⟩:=b;simp only at*;simp only[Rec.mk.injEq];refine⟨oM,oM,oM,oM,oM,oM⟩
end Go.Proofs.YtddcipamdggcnaaGreatDoor
namespace Go.Proofs.YtddcipamdggcnaaGreatDoor
section
variable{fr:aQ->Nat×az}
def ayT:gZ (Gm (fr:=fr)):=by
 intro ce bl ch K hc;unfold Gm at hc⊢;split at hc
 ·split at hc
  ·revert hc;cases bY bl.length bl with
   |false=>exact λh=>h.elim
   |true=>
    rintro⟨es,h,hK⟩;exact⟨es,h,λdN bs x c' sV us hF=>⟨hK dN bs x c' sV us hF,_,rfl⟩⟩
  ·exact hc.elim
 ·exact hc.elim
def ayU{w:an}{tg:aP}(hG:w.heap[0]?=aa (.cells (aH .u32 64 c9) tg (0,0)))(l:List Rec)(hb:l.length<=1000000){x:Option aF}{c i:Nat}{ty:BT}{us:List aj}(aV:w.heap[i]?=aa (.cells ((bg l.length).flatMap (fZ l)++us).toArray ty.t ty.fz)):
 ba lm 27 #[.slice (bif aC l.length 0 then x else aa ⟨i,0,ag⟩) l.length c] w λv w'=>v=.agg (aH .u8 32 (nf (aO aU) l))/\Ch [] w w':=by
 have S:St [] w (lits [0,i] [0,i] (um tg l l.length ty us)++ax ([]:List Empty) []) w:=by
  refine St.Yj ?_;intro y hy;simp only[um,lits,ax,cy,cG,py,or_false]at hy;rcases hy with rfl|rfl
  ·exact⟨rfl,hG.trans kR⟩
  ·refine⟨rfl,aV.trans ?_⟩;simp only[aI,ao,cl,cy]
 have cT:bz (pT lm oA (qL Empty [zG (aO aU)]) (ja 0 (KD (aO aU) tg l l.length c x ty us))) 60 27 [.dB 1 0 l.length c x] (um tg l l.length ty us) [] (bG 2 λv _ _=>v=.agg (ph (nf (aO aU) l))):=by
  rw[agM];exact agN rfl hb rfl
 have cN:(aJ [0,i] [.dB 1 0 l.length c x]).toArray=#[.slice (bif aC l.length 0 then x else aa ⟨i,0,ag⟩) l.length c]:=rfl;rw[<-cN];refine(eO (C:=pT lm oA (qL Empty [zG (aO aU)]) (ja 0 (KD (aO aU) tg l l.length c x ty us))) (_root_.Go.Proofs.YtddcipamdggcnaaGreatDoor.aK.TL YO) (_root_.Go.Proofs.YtddcipamdggcnaaGreatDoor.aK.QL YO) 60 (agS i) rfl S cT).mono ?_;rintro v w' ⟨y,dl,gt,ii,rfl,h1,S',hK⟩;obtain⟨v2,cj,io,uh,-,S2,-,iQ⟩:=ig (n0:=2) h1 sP S' hK;refine⟨?_,S2.ch⟩;rw[uh];simp only[den,YL]
def DN{G:Type}(C:aM)(i k:Nat)(bl:List VB)(ch:List G)(K:VK G):Prop:=match bl[i]?with
 |some ⟨wr,ty,[.gm 6 n g,.rest us]⟩=>∃l:List Rec,(g=fZ l/\n=l.length/\k<=n/\n<=1000000/\∃tg,bl[0]?=aa (fO tg))/\K (.agg [.cu .u8 32 ((l.take k).foldl C.next λ_=>0)]) bl ch
 |_=>False
def KM{G:Type}(C:aM):dm G:=λce bl ch K=>match ce with
 |[.dB i 0 k c x]=>DN C i k bl ch K
 |[.sl i 0 k c]=>DN C i k bl ch K
 |_=>False
def agY{G:Type}[Bl G]{ap:List Nat}{bl:List VB}{X:List av}{ms:List Nat}{w0 w:an}{tg:aP}(hg:Gl gS ap)(hl:ap.length=bl.length)(S:St ms w0 (lits ap ap bl++X) w)(h:bl[0]?=aa (fO tg)):w.heap[0]?=aa (.cells (aH .u32 64 c9) tg (0,0)):=by
 have h1:=(gp hl S h).2;rw[(hg 0 0 rfl).2]at h1;rw[h1];simp only[fO,ao,cl,cy];rfl
def agZ{G:Type}[Bl G]{i k:Nat}{bl:List VB}{ch:List G}{K:VK G}{ap:List Nat}{R:List av}{ms:List Nat}{w0 w:an}(hg:Gl gS ap)(hl:ap.length=bl.length)(S:St ms w0 (lits ap ap bl++ax ch R) w)(x:Option aF)(c:Nat)(hc:DN (aO aU) i k bl ch K):
 ba lm 27 #[.slice (bif aC k 0 then x else aa ⟨ap.getD i 0,0,ag⟩) k c] w λv w'=>∃y dl gt ii,v=den (ap++dl) y/\(ap++dl).length=gt.length/\St ms w0 (lits (ap++dl) (ap++dl) gt++ax ii R) w'/\K y gt ii:=by
 unfold DN at hc;split at hc
 ·rename_i wr ty n g us hb;obtain⟨l,⟨rfl,rfl,hk,hn,tg,e0⟩,hK⟩:=hc;have hG:=agY (G:=G) hg hl S e0;have aV:=(gp hl S hb).2;have ip:(l.take k).length=k:=by rw[w9];omega
  have LV:ao ap [.gm 6 l.length (fZ l),.rest us]=(bg (l.take k).length).flatMap (fZ (l.take k))++(gz (l.drop k)++us):=by
   simp only[ao,cl,cy];rw[Dr,Dr,<-bZ,<-YQ,jR]
  have qN:w.heap[ap.getD i 0]?=aa (.cells ((bg (l.take k).length).flatMap (fZ (l.take k))++(gz (l.drop k)++us)).toArray ty.t ty.fz):=by rw[<-LV];exact aV
  have:=ayU (x:=x) (c:=c) hG (l.take k) oM qN;rw[agP _ rfl,ip]at this;refine this.mono ?_;rintro v w' ⟨rfl,cz⟩;refine⟨.agg [.cu .u8 32 ((l.take k).foldl mf λ_=>0)],[],_,_,?_,by simpa using hl,by simpa using S.quiet cz,hK⟩;simp only[den,ao,cl,cy];rfl
 ·exact hc.elim
def ayV{G:Type}[Bl G]:Sound (G:=G) lm gS 27 (KM (aO aU)):=by
 intro ce ap bl ch R ms w0 w K hg hl S hc;unfold KM at hc;split at hc
 ·rename_i i k c x;have:=agZ hg hl S x c hc;exact this
 ·rename_i i k c;have:=agZ hg hl S (aa ⟨ap.getD i 0,0,ag⟩) c hc;have e:(bif aC k 0 then aa (⟨ap.getD i 0,0,ag⟩:aF)else aa ⟨ap.getD i 0,0,ag⟩)=aa ⟨ap.getD i 0,0,ag⟩:=by cases aC k 0<;>rfl
  rw[e]at this;exact this
 ·exact hc.elim
def ag0{G:Type}{C:aM}{i k:Nat}{bl:List VB}{ch:List G}{K:VK G}(hc:DN C i k bl ch K):DN C i k bl ch λv gt ii=>K v gt ii/\∃e,gt=bl++e:=by
 unfold DN at hc⊢;split at hc
 ·obtain⟨l,h,hK⟩:=hc;exact⟨l,h,hK,[],sP⟩
 ·exact hc.elim
def ayW{G:Type}(C:aM):gZ (KM (G:=G) C):=by
 intro ce bl ch K hc;unfold KM at hc⊢;split at hc
 ·exact ag0 hc
 ·exact ag0 hc
 ·exact hc.elim
def KO{G:Type}(C:aM):dm G:=λce bl ch K=>match ce with
 |[.agg [.cu .u8 32 h],.agg [.int .i64 a,.int .i64 b,.int .i64 c,.int .i64 d,.int .i64 e,.int .i64 f]]=>(∃tg,bl[0]?=aa (fO tg))/\K (.agg [.cu .u8 32 (C.next h ⟨a,b,c,d,e,f⟩)]) bl ch
 |_=>False
def ayX{G:Type}[Bl G]:Sound (G:=G) lm gS 28 (KO (aO aU)):=by
 intro ce ap bl ch R ms w0 w K hg hl S hc;unfold KO at hc;split at hc
 ·rename_i h a b c d e f;obtain⟨⟨tg,e0⟩,hK⟩:=hc;have hG:=agY (G:=G) hg hl S e0;have:=Ud h ⟨a,b,c,d,e,f⟩ w hG;have ea:(aJ ap [.agg [.cu .u8 32 h],.agg [.int .i64 a,.int .i64 b,.int .i64 c,.int .i64 d,.int .i64 e,.int .i64 f]]).toArray=#[.agg (aH .u8 32 h),.agg (recC ⟨a,b,c,d,e,f⟩)]:=by
   simp only[aJ,den,ao,cl,fe,fu,cy];rfl
  rw[ea];refine this.mono ?_;rintro v w' ⟨rfl,cz⟩;refine⟨.agg [.cu .u8 32 (mf h ⟨a,b,c,d,e,f⟩)],[],_,_,?_,by simpa using hl,by simpa using S.quiet cz,hK⟩;simp only[den,ao,cl,cy];rfl
 ·exact hc.elim
def ayY{G:Type}(C:aM):gZ (KO (G:=G) C):=by
 intro ce bl ch K hc;unfold KO at hc⊢;split at hc
 ·exact⟨hc.1,hc.2,[],sP⟩
 ·exact hc.elim
def KR{G:Type}:dm G:=λce bl ch K=>match ce with
 |[.agg [.int .i64 a,.int .i64 b,.int .i64 c,.int .i64 d,.int .i64 e,.int .i64 f]]=>K (.agg [.int .u8 (dO ⟨a,b,c,d,e,f⟩ 0),.int .u8 (dO ⟨a,b,c,d,e,f⟩ 1),.int .u8 (dO ⟨a,b,c,d,e,f⟩ 2),.int .u8 (dO ⟨a,b,c,d,e,f⟩ 3),.int .u8 (dO ⟨a,b,c,d,e,f⟩ 4),.int .u8 (dO ⟨a,b,c,d,e,f⟩ 5),.int .u8 (dO ⟨a,b,c,d,e,f⟩ 6),.int .u8 (dO ⟨a,b,c,d,e,f⟩ 7),.int .u8 (dO ⟨a,b,c,d,e,f⟩ 8),.int .u8 (dO ⟨a,b,c,d,e,f⟩ 9)]) bl ch
 |_=>False
def ayZ{G:Type}[Bl G]{gl:Nat->Option Nat}:Sound (G:=G) lm gl 29 KR:=by
 intro ce ap bl ch R ms w0 w K hg hl S hc;unfold KR at hc;split at hc
 ·rename_i a b c d e f;have:=acJ ⟨a,b,c,d,e,f⟩ w;have ea:(aJ ap [.agg [.int .i64 a,.int .i64 b,.int .i64 c,.int .i64 d,.int .i64 e,.int .i64 f]]).toArray=#[.agg (recC ⟨a,b,c,d,e,f⟩)]:=rfl;rw[ea];refine this.mono ?_;rintro v w' ⟨rfl,cz⟩;refine⟨_,[],_,_,?_,by simpa using hl,by simpa using S.quiet cz,hc⟩;simp only[den,ao,cl,cy,fe,fu]
 ·exact hc.elim
def ay0{G:Type}:gZ (KR (G:=G)):=by
 intro ce bl ch K hc;unfold KR at hc⊢;split at hc
 ·exact⟨hc,[],sP⟩
 ·exact hc.elim
def vG(f g:Nat->Int):Nat->Nat->Bool
 |0,_=>af
 |n+1,i=>f i==g i&&vG f g n (i+1)
def Bt(a b:Rec):Bool:=a.kind==b.kind&&(a.source==b.source&&(a.seq==b.seq&&(a.au==b.au&&(a.code==b.code&&(a.how==b.how&&af)))))
structure zI(fr:aQ->Nat×az)(tg tc:aP)(u:an)(x:my)(n:Nat) where
 y:pg fr tg tc u x n
 za:Option aF
 zc:Nat
 zt:Nat
 zu:List aj
 ts:Nat->ai
 vs:Nat->jg
 dt:Nat
 du:List aj
 l:List Rec
 lx:Option aF
 lc:Nat
 lt:Nat
 lu:List aj
 h:Nat->Int
 i:Nat
 up:l.Pairwise λa b=>a.au<=b.au
 rb:∀r∈l,oV True r
 len:l.length<=600000
 lo:1<=i
 hi:i<=l.length\/i=1
 cap:l.length<=lc
section
variable(C:aM)(tg tc:aP)(ty:BT)(u:an)(x:my)(f:Nat->Nat×az)(o n c:Nat)(a:Option aF)(es:Nat->eT)(f6 f7:List aj)(wh:Int)
def P2(z:zI fr tg tc u x (cY 60 n))(i:Int):List V:=[.int .u16 wh,.dB 13 0 z.l.length z.lc z.lx,.int .i64 i]
def KU(z:zI fr tg tc u x (cY 60 n)):List VB:=YD tg tc ty u x f n es f6 f7 z.y.p z.y.m z.y.d z.y.et z.y.es z.y.eu++[jf z.zt 1 z.y.mc.s.c.q.length (ov z.y.mc.s.c.q) z.zu,jf z.dt 46 z.y.j (jN z.ts z.vs) z.du,⟨af,⟨55,(0,0)⟩,oZ z.y.mc.s (.dB 10 0 z.y.mc.s.c.q.length z.zc z.za)⟩,jf z.lt 6 z.l.length (fZ z.l) z.lu,⟨af,⟨46,(0,0)⟩,[.cu .u8 32 z.h]⟩]
def P3(z:zI fr tg tc u x (cY 60 n)):List (LG fr):=[.br u,.gu z.y.mc,.hJ z.y.bs]
def YX:Lp (LG fr):=we (X:=zI fr tg tc u x (cY 60 n)) (λz=>z.l.length-z.i) 131 15 [2,12,14] (λz=>P2 tg tc u x n wh z z.i) (KU tg tc ty u x f n es f6 f7) (P3 tg tc u x n) (λ_=>rfl) (λ_=>kR) (λ_=>rfl)
variable(K:V->Prop)
def P4(fr:aQ->Nat×az)(P:aL)(C:aM)(lp:Nat->List V->Option (Lp (LG fr))):List (bT (LG fr)):=[⟨25,af,Gm⟩,⟨23,ah,PU⟩,⟨10,ah,XK⟩,⟨19,ah,agH P C lp⟩,⟨22,af,KJ C⟩,⟨27,af,KM C⟩,⟨28,af,KO C⟩,⟨29,af,KR⟩]
def rcQ(l:List Rec)(k:Int):Prop:=k.toNat<l.length/\∀j,(fZ l j).length=6
def zJ(l:List Rec)(k:Int)(N:Prop):Prop:=(0<=k/\k<(l.length:Int))/\rcQ l k/\N
def ofP(tg:aP)(l:List Rec)(k:Int)(c:Nat)(N:List Rec->Prop):Prop:=(0<l.length/\0<=k/\k<=(c:Int))/\∃l':List Rec,(fZ l=fZ l'/\l.length=l'.length/\k.toNat<=l.length/\l.length<=1000000/\∃t,aa (fO tg)=aa (fO t))/\N l'
def YY(z:zI fr tg tc u x (cY 60 n)):Prop:=zJ z.l z.i (zJ z.l (i64.wrap ((z.i:Int)-1)) (cond (decide ((z.l.getD (z.i:Int).toNat default).au<(z.l.getD (i64.wrap ((z.i:Int)-1)).toNat default).au)) (K (.bool ah))
 (af=af/\uY (λz=>z.l.length-z.i) (λz=>P2 tg tc u x n wh z z.i) (KU tg tc ty u x f n es f6 f7) (P3 tg tc u x n) z (P2 tg tc u x n wh z (i64.wrap ((z.i:Int)+1))) (KU tg tc ty u x f n es f6 f7 z) (P3 tg tc u x n z))))
def YZ(z:zI fr tg tc u x (cY 60 n)):Prop:=
 let m:=i64.wrap ((z.l.length:Int)-1)
 let k:=i64.wrap (1+(i64.wrap wh).tmod m)
 let j:=i64.wrap (k-1)
 let at':=λ(i:Int)=>z.l.getD i.toNat default
 cond (decide ((z.l.length:Int)<2)) (K (.bool af)) (0<m/\(0<z.l.length/\0<=j/\j<=(z.lc:Int))/\zJ z.l j (∃l1:List Rec,(fZ z.l=fZ l1/\z.l.length=l1.length/\j.toNat<=z.l.length/\z.l.length<=1000000/\∃t,aa (fO tg)=aa (fO t))/\(∃t,aa (fO tg)=aa (fO t))/\
  ofP tg z.l k z.lc λl2=>cond (vG (C.next ((l1.take j.toNat).foldl C.next λ_=>0) (at' j)) ((l2.take k.toNat).foldl C.next λ_=>0) 32 0)
   (zJ z.l k (zJ z.l j (zJ z.l k (zJ z.l j (K (.bool (vG (dO (at' k)) (dO (at' j)) 10 0==Bt (at' k) (at' j)))))))) (K (.bool ah))))
def Y0(y:pg fr tg tc u x (cY 60 n))(l:List Rec)(c:Nat)(a:Option aF)(B:List VB):Prop:=
 (af=af/\uX (λz=>P2 tg tc u x n wh z z.i) (KU (fr:=fr) tg tc ty u x f n es f6 f7) (P3 tg tc u x n) [.int .u16 wh,.dB 13 0 l.length c a,.int .i64 1] B [.br u,.gu y.mc,.hJ y.bs])/\
  ∀(z:zI fr tg tc u x (cY 60 n))(g:Nat->aj),cond (decide ((z.i:Int)<(z.l.length:Int))) (YY tg tc ty u x f n es f6 f7 wh K z) (YZ C tg tc u x n wh K z)
def ay1(y:pg fr tg tc u x (cY 60 n))(za:Option aF)(zc zt:Nat)(zu:List aj):Prop:=
 ∃(ts:Nat->ai)(vs:Nat->jg),(tj y.x y.j y.c=.slice y.x y.j y.c/\(bg y.j).flatMap (jN y.ts y.vs)=(bg y.j).flatMap (jN ts vs)/\∃t,aa (fO tg)=aa (fO t))/\∀(dt:Nat)(du:List aj),
  ∃(DK:Nat->ai)(vs':Nat->jg),(jN ts vs=jN DK vs'/\y.j<=y.j/\y.j<=60/\(∃t,aa (fO tg)=aa (fO t))/\∀j,j<y.j->zF fr (DK j) (vs' j) y.mc.fB/\(DK j).aY.length<=10000)/\∀(lx:Option aF)(lc lt:Nat)(lu:List aj),(dQ DK y.j).length<=lc->
   let l:=dQ DK y.j
   let h:=l.foldl C.next λ_=>0
   let B:=YD tg tc ty u x f n es f6 f7 y.p y.m y.d y.et y.es y.eu++[jf zt 1 y.mc.s.c.q.length (ov y.mc.s.c.q) zu,jf dt 46 y.j (jN ts vs) du,⟨af,⟨55,(0,0)⟩,oZ y.mc.s (.dB 10 0 y.mc.s.c.q.length zc za)⟩,jf lt 6 l.length (fZ l) lu,⟨af,⟨46,(0,0)⟩,[.cu .u8 32 h]⟩]
   ∃l0:List Rec,(fZ l=fZ l0/\l.length=l0.length/\l.length<=l.length/\l.length<=1000000/\∃t,aa (fO tg)=aa (fO t))/\cond (!(vG h ((l0.take l.length).foldl C.next λ_=>0) 32 0)) (K (.bool ah))
    (cond (decide ((y.j:Int)>0)) ((0<=i64.wrap ((y.j:Int)-1)/\i64.wrap ((y.j:Int)-1)<(y.j:Int))/\((i64.wrap ((y.j:Int)-1)).toNat<y.j/\∀j,(jN ts vs j).length=46)/\
     cond (!(vG (ts (i64.wrap ((y.j:Int)-1)).toNat).c.head h 32 0)) (K (.bool ah)) (Y0 C tg tc ty u x f n es f6 f7 wh K y l lc lx B)) (Y0 C tg tc ty u x f n es f6 f7 wh K y l lc lx B))
def tpX:Prop:=rdA x u/\∀(p:Nat->Int)(m d:Nat->Nat)(hM:Made x p m),agz tg u es o n c f6 λdN bs ex ec et eu N=>ruX (fr:=fr) C tg tc ty u x f n es f6 f7 (ay1 C tg tc ty u x f n es f6 f7 wh K) p m d et dN eu ec ex bs
def ay2:bz (vE lm gS (P4 fr lm C (λi _=>ja 0 (PX (fr:=fr) tg tc ty u x f n es f6 f7) i)) B6 Ep (λi _=>ja 0 (YX (fr:=fr) tg tc ty u x f n es f6 f7 wh) i)) 60 8 [.agg [.fi ⟨x.q,f⟩ x.ka x.kn x.kc],.dB 2 o n c a,.int .u16 wh] [fO tg,Kk tc,nH ty n es f6 f7] [.br u] (λv _ _=>K v)=tpX (fr:=fr) C tg tc ty u x f o n c es f6 f7 wh K:=kR
end
def Y1{f g:Nat->Int}:∀(n i:Nat),vG f g n i=af↔∀k,k<n->f (i+k)=g (i+k)
 |0,i=>⟨λ_ k h=>absurd h (Nat.not_lt_zero _),λ_=>rfl⟩
 |n+1,i=>by
  unfold vG;rw[bJ,Y1 n (i+1)];refine⟨λ⟨h1,h2⟩ k hk=>?_,λh=>⟨by simpa using h 0 oM,λk hk=>?_⟩⟩
  ·cases k with
   |zero=>exact eq_of_beq h1
   |succ k=>have:=h2 k oM;rwa [show i+1+k=i+(k+1) by omega]at this
  ·rw[show i+1+k=i+(k+1) by omega];exact h (k+1) oM
def P5(f:Nat->Int)(n i:Nat):vG f f n i=af:=(Y1 n i).2 λ_ _=>rfl
def ay3(a:Rec):Bt a a=af:=by simp[Bt]
def ay4{a b:Rec}(h:Bt a b=af):a=b:=by
 obtain⟨a1,a2,a3,a4,a5,a6⟩:=a;obtain⟨b1,b2,b3,b4,b5,b6⟩:=b;simp only[Bt,bJ,beq_iff_eq,Bool.and_true]at h;obtain⟨rfl,rfl,rfl,rfl,rfl,rfl⟩:=h;rfl
def ay5{a b:Rec}(ha:oV True a)(hb:oV True b):(vG (dO a) (dO b) 10 0==Bt a b)=af:=by
 by_cases h:a=b
 ·subst h;rw[P5,ay3];rfl
 ·have h1:Bt a b=ah:=by cases h1:Bt a b with|false=>rfl|true=>exact absurd (ay4 h1) h
  have h2:vG (dO a) (dO b) 10 0=ah:=by
   cases h2:vG (dO a) (dO b) 10 0 with
   |false=>rfl
   |true=>exact absurd (ayS ha hb λi hi=>by have:=(Y1 10 0).1 h2 i hi;rwa [d_]at this) h
  rw[h1,h2];rfl
def ay6{l:List Rec}(h:l.Pairwise λa b=>a.au<=b.au){i:Nat}(h1:1<=i)(hi:i<l.length):(l.getD (i-1) default).au<=(l.getD i default).au:=by
 have:=List.pairwise_iff_getElem.1 h (i-1) i oM hi oM;simpa[qx,jh hi,jh (show i-1<l.length by omega)]using this
def ag1{l:List Rec}{i:Nat}(hi:i<l.length):l.getD i default∈l:=by
 rw[qx,jh hi];exact List.getElem_mem hi
def ay7{l:List Rec}{i:Nat}(hi:i<l.length)(g:(Nat->Int)->Rec->Nat->Int)(h:Nat->Int):(l.take (i+1)).foldl g h=g ((l.take i).foldl g h) (l.getD i default):=by
 rw[List.take_add_one,jh hi,List.foldl_append,qx,jh hi];rfl
def ag2{P:aX}{ev:Nat->Ev}{mc:eY fr}{ts:Nat->ai}{vs:Nat->jg}{j:Nat}(h:Bn fr P ev mc ts vs j):∀k,k<=j->dQ ts k=Sd.runT (aO aU) cn (Sd.dU.of P) ev k
 |0,_=>rfl
 |k+1,hk=>by rw[PZ,Sd.agV,ag2 h k oM,(h.t k oM).1]
def Bn.dQ{P:aX}{ev:Nat->Ev}{mc:eY fr}{ts:Nat->ai}{vs:Nat->jg}{j:Nat}(h:Bn fr P ev mc ts vs j)(hP:Sd.fL P):Sd.nI (aO aU) (Sd.dU.of P).s.c.t.au (λ_=>0) ⟨((Sd.dU.of P).run (aO aU) cn ev j).s.c,[],dQ ts j⟩:=by
 rw[ag2 h j (cW _)];exact Sd.agW Dj ev (Sd.Inv.new hP) rfl j
def DO{l:List Rec}{k:Nat}(h:k<l.length){N:Prop}(hN:N):zJ l (k:Int) N:=⟨⟨oM,oM⟩,⟨by rw[tf];exact h,λj=>rfl⟩,hN⟩
section
variable{tg tc:aP}{ty:BT}{u:an}{x:my}{f:Nat->Nat×az}{o n c:Nat}{a:Option aF}{es:Nat->eT}{f6 f7:List aj}{wh:Int}{K:V->Prop}
def DL.cpK{dN:Nat->eT}{N:Nat}{bs:List jz}(h:DL u es o n f6)(hF:DD u es dN N bs):PV dN N bs:=by
 intro j hj;obtain⟨b,q1,q2,q3,q4⟩:=hF.each j hj;refine⟨b,q1,by rw[q2];rfl,by rw[q2];rfl,by rw[q2];rfl,by rw[q3];unfold cY;omega,by rw[q4];exact ae4 u _,by rw[q2];exact h.x4 j⟩
def ay8(z:zI fr tg tc u x (cY 60 n))(h:z.i<z.l.length):YY tg tc ty u x f n es f6 f7 wh K z:=by
 have hl:=z.len;have h1:=z.lo;unfold YY;rw[lg oM,show((z.i:Nat):Int)-1=((z.i-1:Nat):Int) by omega,Bm,Bm];refine DO h (DO oM (aN (λe=>?_) λ_=>⟨rfl,⟨⟨z.y,z.za,z.zc,z.zt,z.zu,z.ts,z.vs,z.dt,z.du,z.l,z.lx,z.lc,z.lt,z.lu,z.h,z.i+1,z.up,z.rb,z.len,oM,.inl h,z.cap⟩,by show z.l.length-(z.i+1)<z.l.length-z.i;omega,?_,rfl,rfl⟩⟩))
 ·have:=ay6 z.up h1 h;have e:(z.l.getD z.i default).au<(z.l.getD (z.i-1) default).au:=by simpa using e
  omega
 ·rw[lg oM];rfl
def ay9(z:zI fr tg tc u x (cY 60 n))(hw:0<=wh/\wh<=65535)(hK:K (.bool af)):YZ (aO aU) tg tc u x n wh K z:=by
 have hl:=z.len;have hc:=z.cap;unfold YZ;dsimp only;refine aN (λ_=>hK) λe=>?_;have h2:¬(z.l.length:Int)<2:=by simpa using e
 have hm:i64.wrap ((z.l.length:Int)-1)=(z.l.length:Int)-1:=lg oM;have IA:=Int.tmod_nonneg (z.l.length-1:Int) hw.1;have kq:=Int.tmod_lt_of_pos wh (show(0:Int)<z.l.length-1 by omega);obtain⟨k,hk⟩:∃k:Nat,wh.tmod ((z.l.length:Int)-1)=(k:Int):=⟨_,(Int.toNat_of_nonneg IA).symm⟩;have xp:k+1<z.l.length:=oM;rw[hm,lg (x:=wh) oM,hk,lg (x:=1+(k:Int)) oM,show(1:Int)+(k:Int)=((k+1:Nat):Int) by omega,lg (x:=((k+1:Nat):Int)-1) oM,show((k+1:Nat):Int)-1=((k:Nat):Int) by omega,Bm,Bm];refine⟨oM,⟨oM,oM,oM⟩,?_⟩;refine DO oM ?_;refine⟨z.l,⟨rfl,rfl,oM,oM,tg,rfl⟩,⟨tg,rfl⟩,?_⟩;unfold ofP;rw[Bm];refine⟨⟨oM,oM,oM⟩,z.l,⟨rfl,rfl,oM,oM,tg,rfl⟩,?_⟩;dsimp only;rw[ay7 (show k<z.l.length by omega),P5];show zJ _ _ _;refine DO oM (DO oM (DO oM (DO oM ?_)));rw[ay5 (z.rb _ (ag1 oM)) (z.rb _ (ag1 oM))];exact hK
def ay_{y:pg fr tg tc u x (cY 60 n)}{l:List Rec}{lc:Nat}{lx:Option aF}(za:Option aF)(zc zt:Nat)(zu:List aj)(ts:Nat->ai)(vs:Nat->jg)(dt:Nat)(du:List aj)(lt:Nat)(lu:List aj)(h:Nat->Int)
 (up:l.Pairwise λa b=>a.au<=b.au) (rb:∀r∈l,oV True r) (len:l.length<=600000) (cap:l.length<=lc) (hw:0<=wh/\wh<=65535) (hK:K (.bool af)) {B:List VB}
 (hB:B=KU (fr:=fr) tg tc ty u x f n es f6 f7 ⟨y,za,zc,zt,zu,ts,vs,dt,du,l,lx,lc,lt,lu,h,1,up,rb,len,cW _,.inr rfl,cap⟩):Y0 (aO aU) tg tc ty u x f n es f6 f7 wh K y l lc lx B:=
 ⟨⟨rfl,⟨y,za,zc,zt,zu,ts,vs,dt,du,l,lx,lc,lt,lu,h,1,up,rb,len,cW _,.inr rfl,cap⟩,rfl,hB,rfl⟩,λz g=>aN (λe=>ay8 z (by simpa using e)) λ_=>ay9 z hw hK⟩
def aza(hr:rdA x u)(hn:n<=c)(hE:DL u es o n f6)(hw:0<=wh/\wh<=65535)(hK:K (.bool af)):tpX (fr:=fr) (aO aU) tg tc ty u x f o n c es f6 f7 wh K:=by
 refine⟨hr,λp m d hM=>hE.few hn λdN bs ex ec et eu hF=>ayw hM (hE.cpK hF) λy hy za zc zt zu=>?_⟩;have h60:cY 60 n<=60:=by unfold cY;omega
 have hyj:=y.hj;have hb:∀j,j<4->1<=y.m j/\y.m j<=64:=λj hj=>by rw[y.hM.n j];exact afI _
 have hT:=y.ok.dQ ((afV (m:=4) (d:=y.d) y.hM.I y.hM.o hb).2 _);have ip:=YU (ts:=y.ts) y.j λj hj=>(y.ok.t j hj).2.2.2;have hl6:(dQ y.ts y.j).length<=600000:=oM;refine⟨y.ts,y.vs,⟨rfl,rfl,tg,rfl⟩,λdt du=>⟨y.ts,y.vs,⟨rfl,cW _,oM,⟨tg,rfl⟩,λj hj=>⟨(y.ok.t j hj).2.1,(y.ok.t j hj).2.2.2⟩⟩,λlx lc lt lu hc=>⟨dQ y.ts y.j,⟨rfl,rfl,cW _,oM,tg,rfl⟩,?_⟩⟩⟩;rw[Le];have hL:=λh=>ay_ (y:=y) (lx:=lx) (ty:=ty) (f:=f) (es:=es) (f6:=f6) (f7:=f7) za zc zt zu y.ts y.vs dt du lt lu h hT.up hT.rb hl6 hc hw hK rfl;refine aN (λe=>?_) λ_=>aN (λe=>?_) λ_=>hL _
 ·rw[P5]at e;cases e
 ·have h0:y.j>0:=by simpa using e
  have Y2:i64.wrap ((y.j:Int)-1)=((y.j-1:Nat):Int):=by rw[lg oM];omega
  rw[Y2,Bm];refine⟨⟨oM,oM⟩,⟨oM,λj=>agy _ _ j⟩,aN (λe=>?_) λ_=>hL _⟩;have hh:(y.ts (y.j-1)).c.head=(dQ y.ts y.j).foldl (aO aU).next λ_=>0:=by
   rw[(y.ok.t (y.j-1) oM).1,show y.j-1+1=y.j by omega];exact hT.head
  rw[hh,P5]at e;cases e
end
end
section
def azb(lp:Nat->List V->Option (Lp (LG mA))):aK lm gS (P4 mA lm (aO aU) lp):=
 have n:∀{c:dm (LG mA)},(ah=af->gZ c):=λe=>by cases e
 aK.cons ⟨ayc,λ_=>ayT⟩ (aK.cons ⟨ayk,n⟩ (aK.cons ⟨awv,n⟩ (aK.cons ⟨ayy axE lp,n⟩ (aK.cons ⟨ayK,λ_=>ayL _⟩ (aK.cons ⟨ayV,λ_=>ayW _⟩ (aK.cons ⟨ayX,λ_=>ayY _⟩ (aK.cons ⟨ayZ,λ_=>ay0⟩ aK.nil)))))))
def azc{W:an}{tg tc:aP}(hG:W.heap[0]?=aa (.cells (aH .u32 64 c9) tg (0,0)))(hC:W.heap[1]?=aa (.cells #[.bool ah,.bool ah,.bool ah,.bool ah,.bool ah,.bool ah,.bool ah,.bool ah,.bool ah,.bool ah,.bool af,.bool af] tc (0,0)))
 (q:Nat->Int) (ka:Nat->Option aF) (kn kc:Nat->Nat) (hr:∀j,j<4->jx W (ka j) (kn j) (kc j) (dP W (ka j))) {v:aj} {es:Nat->eT} {i o n c:Nat} {a:Option aF} {ty:BT} {f6 f7:List aj} (hR:Bi W v 10 (kz es) i o n c a ty f6 f7)
 (zE:∀j,j<n->jx W (es j).x (es j).n (es j).c (dP W (es j).x)) (hx4:∀j,kx (es j).s.x) {wh:Int} (hw:0<=wh/\wh<=65535):
 ba lm 8 #[.agg (tK ⟨q,λ_=>(0,λ_=>0)⟩ ka kn kc).toArray,v,.int .u16 wh] W λv w1=>v=.bool af/\Ch [] W w1:=by
 have S:=axI (fr:=mA) hG hC (i:=i) (b:=nH ty n es f6 f7) rfl rfl (by
  rw[hR.at_];simp only[nH,ao,cl,cy])
 have cT:bz (vE lm gS (P4 mA lm (aO aU) (λi _=>ja 0 (PX (fr:=mA) tg tc ty W ⟨q,ka,kn,kc⟩ (λ_=>(0,λ_=>0)) n es f6 f7) i)) B6 Ep (λi _=>ja 0 (YX (fr:=mA) tg tc ty W ⟨q,ka,kn,kc⟩ (λ_=>(0,λ_=>0)) n es f6 f7 wh) i)) 60 8 [.agg [.fi ⟨q,λ_=>(0,λ_=>0)⟩ ka kn kc],.dB 2 o n c a,.int .u16 wh] [fO tg,Kk tc,nH ty n es f6 f7] [.br W] (λv _ _=>v=.bool af):=by
  rw[ay2 (x:=⟨q,ka,kn,kc⟩)];exact aza ⟨hr 0 dC,hr 1 dC,hr 2 dC,hr 3 dC⟩ hR.le ⟨hR.po,zE,hx4⟩ hw rfl
 have cN:(aJ [0,1,i] [.agg [.fi ⟨q,λ_=>(0,λ_=>0)⟩ ka kn kc],.dB 2 o n c a,.int .u16 wh]).toArray=#[.agg (tK ⟨q,λ_=>(0,λ_=>0)⟩ ka kn kc).toArray,v,.int .u16 wh]:=by
  rw[hR.v];simp only[aJ,den,ao,cl,cy];rfl
 rw[<-cN];have hok:=azb (λi _=>ja 0 (PX (fr:=mA) tg tc ty W ⟨q,ka,kn,kc⟩ (λ_=>(0,λ_=>0)) n es f6 f7) i);refine(eO (C:=vE lm gS (P4 mA lm (aO aU) (λi _=>ja 0 (PX (fr:=mA) tg tc ty W ⟨q,ka,kn,kc⟩ (λ_=>(0,λ_=>0)) n es f6 f7) i)) B6 Ep (λi _=>ja 0 (YX (fr:=mA) tg tc ty W ⟨q,ka,kn,kc⟩ (λ_=>(0,λ_=>0)) n es f6 f7 wh) i)) hok.T hok.Q 60 (axJ i) rfl S cT).mono ?_;rintro v w' ⟨x,dl,gt,ii,rfl,h1,S',rfl⟩;exact⟨rfl,S'.ch⟩
end
end Go.Proofs.YtddcipamdggcnaaGreatDoor
namespace Go.Proofs.YtddcipamdggcnaaGreatDoor.topTrail
open Go.ChangeShapes Go.WideShapes Go.ChangeAt Go.RowKit Go.Joins Sd Sx
def opened(H:Type)(enc:aP×aj->H)(W:an)(ce:Array aj)(ds gs:List (DataW H))(before:List MemPlace)
 (Gy:∀(j:Nat) t v,Tryz.f8.params[j]?=aa t->ce[j]?=aa v->DX lm W .any 0 t v)
 (hW:DataW.Whole enc lm Tryz.f8.params.toList Rows.topTrailSpec.vars ah W ce.toList ds gs before) (hL:laidMetH lm Yk W):
 Rows.topTrailSpec.fn H (ds++gs)={results:=[.lit (.bool af)],args:=ds,vars:=[]}/\Calls lm 8 ce W λe W'=>e=.returned (.bool af)/\Below W.heap.size W W':=by
 obtain⟨p,q,hA,hV,rfl,Bj,wa⟩:=hW;obtain⟨tG,hG⟩:=axL hL;obtain⟨tC,hC⟩:=axT hL;rw[Tryz.params8]at hA Gy;obtain⟨v0,v1,v2,d0,d1,d2,p0,p1,p2,cN,rfl,_,PJ,PL,_⟩:=trodAll_three hA;obtain rfl:ce=#[v0,v1,v2]:=by cases ce;simp_all
 obtain⟨rfl,rfl⟩:=trodVars_none hV;obtain⟨pq,ka,kn,kc,rfl,hk⟩:=axU (Gy 0 28 v0 rfl rfl) (λn=>by obtain⟨kw,h⟩:=PJ;exact Sx.Kq n h);have lJ:=agl Tryz.underlying29 rfl (Gy 1 29 v1 rfl rfl);have zE:∀k,Sx.Rd lm W k 29 [v1]:=λk=>by
  obtain⟨a,m,c,rfl,_,_⟩:=Yl Tryz.underlying29 lJ;obtain⟨kw,h2⟩:=PL;exact Sx.Kq k h2
 obtain⟨es,i,o,n,c,a,ty,f6,f7,hR,hO,hx⟩:=axV lJ zE hG;obtain⟨wh,rfl,Y2,JQ⟩:=agm Tryz.underlying76 (agl Tryz.underlying76 rfl (Gy 2 76 v2 rfl rfl));exact⟨rfl,Sx.ahp (azc hG hC pq ka kn kc hk hR hO hx ⟨Y2,JQ⟩)⟩
def own:ownKnob lm.godebug=ag:=kR
def P6:List (String×DataW Unit):=[("sidestick/gate.commands",Rows.laid_sidestick_gate_commands),("sidestick/sha.roots",ahi)]
def azd(os:Os)(ce:Array aj):laidMetH lm P6 ((World.doorLaid lm 400 os).forCall (λ_ _=>0) ⟨#[],ce,[]⟩).memory:=
 laidMetH_of_parts3 (fuel:=8) (laidMet_of_run' 8 kR kR) kR kR
def lifted(os:Os)(started:os.Started)(H:Type)(enc:aP×aj->H):
 ReturnsInHanded {} ahj os 8 .any (λw ce=>(Rows.topTrailSpec.pre enc lm Tryz.f8 [] ah w ce/\laidMetH lm P6 w)/\sizedMet enc lm Tryz.f8 (OpenSpec.ofChange Rows.topTrailSpec) ah w ce)
  (Rows.topTrailSpec.post enc lm Tryz.f8 ah af ah ah):=by
 refine returnsInHanded_of_change_and (C:=ahj) (X:=λw _=>laidMetH lm P6 w) (λ_ _ _ hh h=>h.of_heap hh) own started kR Tryz.func8
  (ChangeSpec.witness_shaped (enc:=enc) (C:=ahj) (os:=os) (X:=λw _=>laidMetH lm P6 w) ah (World.doorLaid lm 400 os) #[.agg #[.int .i64 0,.int .i64 0,.int .i64 0,.int .i64 0,.int .i64 0,.slice ag 0 0,.slice ag 0 0,.slice ag 0 0,.slice ag 0 0,.int .i64 0,.int .i64 0,.int .i64 0,.int .i64 0,.int .i64 0,.int .i64 0,.int .i64 0,.int .i64 0,.int .i64 0,.int .i64 0,.int .i64 0,.int .i64 0,.int .i64 0,.int .i64 0,.int .i64 0,.int .i64 0,.int .i64 0,.int .i64 0,.int .i64 0,.int .i64 0,.int .i64 0,.int .i64 0,.int .i64 0,.int .i64 0,.int .i64 0,.int .i64 0,.int .i64 0,.int .i64 0,.int .i64 0,.int .i64 0,.int .i64 0,.int .i64 0,.int .i64 0,.int .i64 0,.int .i64 0,.int .i64 0,.int .i64 0,.int .i64 0,.int .i64 0,.int .i64 0,.int .i64 0,.int .i64 0,.int .i64 0,.int .i64 0,.int .i64 0,.int .i64 0,.int .i64 0],.slice ag 0 0,.int .u16 0] 8 rfl (World.shaped_of_RefB kR kR) kR kR kR (azd os _)) ?_
 intro W base ce ds gs before Gy hW _ _ hL _;obtain⟨hs,hc⟩:=opened H enc W ce ds gs before Gy hW hL;refine hc.mono λe W' ⟨he,hb⟩=>⟨_,he,?_⟩;exact axM kR kR rfl kR Tryz.underlying4 hs hW hb
end Go.Proofs.YtddcipamdggcnaaGreatDoor.topTrail
