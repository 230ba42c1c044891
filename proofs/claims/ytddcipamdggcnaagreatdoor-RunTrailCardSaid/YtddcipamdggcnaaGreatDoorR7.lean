/- Part 7 of the proof. -/
import Derived.Test.YtddcipamdggcnaaGreatDoorCards
import Derived.Test.YtddcipamdggcnaaGreatDoorTie
import Derived.Lib.SmallJoins
import Derived.SevenTiedAt
import Derived.LaidMore
import Derived.Stop.Joined
import Derived.Test.YtddcipamdggcnaaGreatDoorR6
set_option linter.all false
set_option maxRecDepth 100000
set_option maxHeartbeats 4000000
noncomputable section
open Sd(Ev Rec aM aQ aX ai az fL kx)
open Go.Proofs.Tryz
open Go.Proofs.Tryz renaming prog->f8
open Go.IntKind (u8 u16 u32 u64 i64)
open Bool renaming true->af,false->ah,and_eq_true->bJ
open Go renaming Addr->aF,Program->aL,TypeId->aP,Value->aj,World->an,Operand->bA
open Go.Addr renaming add_lit->iY,add->qo
open Go.Proofs.Tryz renaming checked->ahj
open Go.Proofs.YtddcipamdggcnaaGreatDoor.Rows renaming laid_sidestick_sha_roots->ahi
open Go.Sem renaming run_bind->bH
open Go.Src renaming ofSlice->qu
open Go.Value renaming okWide->DX,int->fI,slice->tj
open Go.Value.slice renaming injEq->Zj
open Int renaming toNat_natCast->tf,le_refl->uy,le_trans->vM
open List renaming pairwise_append->DQ,flatMap_def->GF,append_assoc->bZ,range->bg,mem_cons->cG,append_nil->cy,mem_append->dV,countP_append->ee,length_append->fH,cons_append->fe,nil_append->fu,getElem?_append_left->gB,getD->gh,map_cons->gx,getElem?_toArray->j7,countP_cons->j9,getElem?_eq_none->jA,mem_singleton->jS,getElem?_eq_getElem->jh,length_cons->jv,mem_append_left->kB,sublist_append_right->kM,eq_nil_of_length_eq_zero->kX,map_map->lN,Perm->lO,countP_nil->lQ,map_congr_left->mB,mem_append_right->oF,getElem?_range->pr,not_mem_nil->py,mem_cons_of_mem->qA,getD_eq_getElem?_getD->qx,mem_of_getElem?->rC,range_succ_eq_map->ta,getElem?_append_right->vI,range_succ->vK,flatMap_append->vL,foldl_cons->xg,mem_cons_self->xk
open List.Pairwise renaming nil->ag5
open List.Perm renaming append_right->BA,append_left->j8,trans->xm,refl->zM
open Nat renaming beq->aC,add_sub_cancel_left->ag6,le_refl->cW,ble->ck,eq_of_beq_eq_true->cw,zero_add->d_,lt_or_ge->di,blt->dq,le_of_ble_eq_true->eU,le_trans->h_,zero_le->oG
open Option renaming some->aa,none->ag
open Option.some renaming injEq->a_,inj->cP
open Prod.mk renaming injEq->bI
open Go Go.RowKit Go.BigFrame Sx Vx
namespace Go.Proofs.YtddcipamdggcnaaGreatDoor
section
variable{fr:aQ->Nat×az}
structure jg where
 x1:Option aF
 c1:Nat
 x2:Option aF
 c2:Nat
 fv:Nat->lh
def wZ(t:ai)(v:jg):List V:=zq t (.raw (.slice v.x1 t.bE.length v.c1)) (.raw (.slice v.x2 t.aY.length v.c2))
structure zF(fr:aQ->Nat×az)(t:ai)(v:jg)(B:List av):Prop where
 s:∃b,dk 2 61 ((bg t.bE.length).flatMap (lK t.bE v.fv)) v.x1 t.bE.length v.c1 b/\∀y∈b,y∈B
 r:∃b,dk 6 64 ((bg t.aY.length).flatMap (fZ t.aY)) v.x2 t.aY.length v.c2 b/\∀y∈b,y∈B
 f:vz fr t.bE v.fv B
def vz.more{l:List (Int×aQ)}{fv:Nat->lh}{B B':List av}(h:vz fr l fv B)(hs:∀y∈B,y∈B'):vz fr l fv B':=λj hj=>by
 obtain⟨x,c,b,h1,h2,h3⟩:=h j hj;exact⟨x,c,b,h1,h2,λy hy=>hs y (h3 y hy)⟩
def zF.more{t:ai}{v:jg}{B B':List av}(h:zF fr t v B)(hs:∀y∈B,y∈B'):zF fr t v B':=by
 obtain⟨b1,s1,s2⟩:=h.s;obtain⟨b2,r1,r2⟩:=h.r;exact⟨⟨b1,s1,λy hy=>hs y (s2 y hy)⟩,⟨b2,r1,λy hy=>hs y (r2 y hy)⟩,h.f.more hs⟩
structure Gt(m m':eY fr)(t:ai)(rr:Nat->Sd.Rest)(v:jg):Prop where
 k:m'.k=m.k
 ic:m'.ic=m.ic
 it:m'.it=m.it
 a:m'.G.a=m.G.a
 s:m'.s=fE t
 ok:ql m'.k m'.s m'.F m'.G
 rs:f_ m'.G=rr
 f:∃e,m'.fB=e++m.fB
 at_:zF fr t v m'.fB
 nS:t.bE.length<=10000
 nR:t.aY.length<=10000
def Gt.R{m m':eY fr}{t:ai}{rr:Nat->Sd.Rest}{v:jg}(h:Gt m m' t rr v):m'.R=m.R:=by
 unfold eY.R;rw[h.ic,h.a]
def Yx(C:aM):MM fr:=λar m rest Kb=>match ar with
 |[.agg [.int .i64 kd,.int .i64 src,vv,.bool vl,.int .i64 a,.int .i64 b,.int .i64 c,.int .i64 d,.bool gv,.bool bad]]=>cond (Pk vv) (ql m.k m.s m.F m.G/\kx ⟨a,b,c,d⟩/\
  ∃eb:jy,EvB kd src vv rest eb/\∀(t:ai),t=(Sd.dU.go C cn ⟨m.s,f_ m.G⟩ (jM kd src eb ⟨vl,⟨a,b,c,d⟩,gv⟩ bad)).s->∀(v:jg)(m':eY fr),Gt m m' t (Sd.dU.go C cn ⟨m.s,f_ m.G⟩ (jM kd src eb ⟨vl,⟨a,b,c,d⟩,gv⟩ bad)).r v->Kb (.agg (wZ t v)) m' []) False
 |_=>False
def ayl(ht:Body (fr:=fr) 124 dE):XE 13 (Yx (fr:=fr) (aO aU)):=by
 intro u ae ar m rest Kb im R ms w0 w hM S;unfold Yx at hM;split at hM
 ·rename_i kd src vv vl a b c d gv bad;cases mK:Pk vv with
  |false=>rw[mK]at hM;exact hM.elim
  |true=>
   rw[mK]at hM;obtain⟨hok,hx,eb,⟨hv,hb,he,hn⟩,hK⟩:=hM;obtain⟨Q,hQ⟩:∃Q,(ax rest R).Perm (eb.B++Q):=by
    rcases hb with e|⟨bs,h1,b,h2,h3⟩
    ·exact⟨ax rest R,by rw[e];exact zM _⟩
    ·obtain⟨Q1,J1⟩:=afk h1 R;obtain⟨Q2,J2⟩:=awf h2;refine⟨Q2++Q1,J1.trans ?_⟩;rw[<-bZ,h3];exact BA _ J2
   have S1:St ms w0 (lits [0,1,m.ic,m.it,im] [0,1,m.ic,m.it,im] (jZ m.k m.s m.G)++ax (wU u m.k m.s m.F [] m.G eb) (m.fB++Q)) w:=by
    refine S.perm ?_;show lO (m.wW im++_) (m.wW im++(cA u++((m.F.B++[])++(m.G.B++(eb.B++(m.fB++Q))))));refine j8 _ ?_;have h1:(m.F.B++(m.fB++(m.G.B++(cA u++ax rest R)))).Perm ((m.F.B++(m.fB++(m.G.B++cA u)))++(eb.B++Q)):=by
     refine xm ?_ (j8 _ hQ);exact dW λf=>by simp only[ee];omega
    refine h1.trans ?_;exact dW λf=>by simp only[ee,lQ];omega
   have hg:Gl gS [0,1,m.ic,m.it,im]:=by
    intro g i dz;unfold gS at dz;split at dz
    ·obtain rfl:=cP dz;exact⟨sP,rfl⟩
    ·obtain rfl:=cP dz;exact⟨sP,rfl⟩
    ·cases dz
   have ve:=awd (u:=u) (kd:=kd) (src:=src) (v:=den ae vv) (sm:=⟨vl,⟨a,b,c,d⟩,gv⟩) (bad:=bad) ht hg hok (λe1 e2=>by rw[hv e1 e2];simp only[den]) he hn hx S1;have agx:(aJ [0,1,m.ic,m.it,im] [.ptr 4 0,.agg (dH kd src (den ae vv) ⟨vl,⟨a,b,c,d⟩,gv⟩ bad)]).toArray=(.pointer (aa ⟨im,0,ag⟩)::aJ ae [.agg [.int .i64 kd,.int .i64 src,vv,.bool vl,.int .i64 a,.int .i64 b,.int .i64 c,.int .i64 d,.bool gv,.bool bad]]).toArray:=
    awg (ae:=ae) (js:=[0,1,m.ic,m.it]) (kd:=kd) (src:=src) (sm:=⟨vl,⟨a,b,c,d⟩,gv⟩) (bad:=bad) mK im
   rw[agx]at ve;refine ve.mono ?_;clear ve agx S S1;rintro v w' ⟨s',F',gQ,bN,G',⟨hM',hA,hr,ha,hnS,hnR⟩,rfl,S2⟩;revert hK hA hr;generalize (Sd.dU.go (aO aU) cn ⟨m.s,f_ m.G⟩ (jM kd src eb ⟨vl,⟨a,b,c,d⟩,gv⟩ bad)).r=rr;generalize (Sd.dU.go (aO aU) cn ⟨m.s,f_ m.G⟩ (jM kd src eb ⟨vl,⟨a,b,c,d⟩,gv⟩ bad)).s=t;intro hK hA hr;obtain⟨rfl,nS,⟨fv,oS,hf⟩,nR,oR⟩:=hA;have hS':=bN.hS;rw[nS,oS]at hS';have hR':=bN.hR;rw[nR,oR]at hR'
   let vd:jg:=⟨bN.xS,bN.cS,bN.xR,bN.cR,fv⟩
   let m':eY fr:=⟨m.k,fE t,F',(bN.bS++(bN.bR++gQ))++m.fB,G',m.ic,m.it⟩
   have aV:zF fr t vd m'.fB:=⟨⟨bN.bS,hS',λy hy=>kB _ (kB _ hy)⟩,⟨bN.bR,hR',λy hy=>kB _ (oF _ (kB _ hy))⟩,
    vz.more hf λy hy=>kB _ (oF _ (oF _ hy))⟩
   refine⟨.agg (wZ t vd),m',[],[],rfl,?_,rfl,hK t rfl vd m' ⟨rfl,rfl,rfl,ha,rfl,hM',hr,⟨_,rfl⟩,aV,oM,oM⟩,?_⟩
   ·unfold Kc zq wZ zq;rw[nS,nR];simp only[den,ao,cl,fE];rfl
   ·have e2:m'.wW im=lits [0,1,m.ic,m.it,im] [0,1,m.ic,m.it,im] (jZ m.k (fE t) m.G):=by
     show lits _ _ [cx m.k,g_ m.k,fM m.k 3 (fE t),fA (fE t),wP 2 G']=_;rw[afw ha];rfl
    rw[e2];refine S2.perm ?_;show lO (_++(cA u++((F'.B++gQ)++(bN.bS++(bN.bR++(G'.B++(eb.B++(m.fB++Q)))))))) (_++([]++(F'.B++(((bN.bS++(bN.bR++gQ))++m.fB)++(G'.B++(cA u++ax rest R))))));refine j8 _ ?_;have h1:(([]:List av)++(F'.B++(((bN.bS++(bN.bR++gQ))++m.fB)++(G'.B++(cA u++ax rest R))))).Perm ((F'.B++(((bN.bS++(bN.bR++gQ))++m.fB)++(G'.B++cA u)))++(eb.B++Q)):=by
     refine xm ?_ (j8 _ hQ);exact dW λf=>by simp only[ee,lQ];omega
    refine xm ?_ h1.symm;exact dW λf=>by simp only[ee];omega
 ·exact hM.elim
def jN(ts:Nat->ai)(vs:Nat->jg)(j:Nat):List aj:=ao [] (wZ (ts j) (vs j))
def agy(ts:Nat->ai)(vs:Nat->jg)(j:Nat):(jN ts vs j).length=46:=by
 unfold jN wZ zq;simp[ao,cl,den]
def Yy(l:List V):VB:=⟨af,⟨28,(0,0)⟩,l⟩
def aym(x:my)(f:Nat->Nat×az):VB:=Yy [.fi ⟨x.q,f⟩ x.ka x.kn x.kc]
def ayn(x:my)(u:an)(n d:Nat->Nat):List VB:=[hU (n 0) (d 0) (mw (x.kn 0) (dP u (x.ka 0))),hU (n 1) (d 1) (mw (x.kn 1) (dP u (x.ka 1))),hU (n 2) (d 2) (mw (x.kn 2) (dP u (x.ka 2))),hU (n 3) (d 3) (mw (x.kn 3) (dP u (x.ka 3)))]
def s8(k:LK)(p2:aX)(F:bx fr (bd k (mz p2)))(ic it:Nat)(a:Nat->Nat):eY fr:=⟨k,bV (mz p2),F,[],.new a,ic,it⟩
def mkP(bl:List VB)(k:LK)(p2:aX)(it:Nat):Prop:=bl=bl/\nr k it (mz p2)=nr k it (bV (mz p2))/\p2.da=p2.da/\p2.jk=p2.jk
def ayo(bl:List VB)(b:VB):Prop:=∃e,bl++[b]=bl++e
section
variable(C:aM)(tg tc:aP)(ty:BT)(u:an)(x:my)(f:Nat->Nat×az)(o n c:Nat)(a:Option aF)(es:Nat->eT)(aw a9:List aj)
end
def ayp(es:Nat->eT)(n:Nat)(bs:List jz):Prop:=∀j,j<n->∃b∈bs,(es j).x=b.x/\(es j).n=b.n/\(es j).c=b.c/\b.n<=120/\By b.f/\kx (es j).s.x
def agz(tg:aP)(u:an)(es:Nat->eT)(o n c:Nat)(aw:List aj)(X:(dN:Nat->eT)->(bs:List jz)->Option aF->Nat->Nat->List aj->Nat->Prop):Prop:=
 ∃Gu:Nat->eT,(kz es=kz Gu/\n=n/\(∀j,j<n->o=aw.length)/\n<=c/\(∃t,aa (fO tg)=aa (fO t))/\∀j,j<n->jx u (Gu j).x (Gu j).n (Gu j).c (dP u (Gu j).x))/\
  ∀(dN:Nat->eT)(bs:List jz)(x:Option aF)(c' sV:Nat)(us:List aj),DD u Gu dN (cY 60 n) bs->X dN bs x c' sV us (cY 60 n)
def Yz(tg tc:aP)(R:VB)(m:eY fr):Prop:=aa (fO tg)=aa (cx m.k)/\aa (Kk tc)=aa (g_ m.k)/\aa R=aa m.R
def agA(j N:Nat):Prop:=0<=(j:Int)/\(j:Int)<(N:Int)
def evP(es:Nat->eT)(j N:Nat):Prop:=(j:Int).toNat<N/\∀i,(kz es i).length=10
section
variable(C:aM)(tg tc:aP)(ty:BT)(u:an)(x:my)(f:Nat->Nat×az)(o n c:Nat)(a:Option aF)(es:Nat->eT)(aw a9:List aj)
variable(K:V->Prop)
end
def ayq{k:LK}{p2:aX}{F:bx fr (bd k (mz p2))}(hC:ft k (mz p2))(hm:k.most=p2.queue)(hp:Du k)(v1:cC=F.vs)(v2:cC=F.vr)(ic it:Nat)(b:Nat->Nat):ql (fr:=fr) (s8 k p2 F ic it b).k (s8 k p2 F ic it b).s (s8 k p2 F ic it b).F (s8 k p2 F ic it b).G:=
 ⟨by show ft k (bV (mz p2));rw[nu];exact hC,hm.symm,hp,v1,v2,λi _ j=>⟨uy 0,by show(0:Int)<=255;decide⟩,λi _=>oG 36⟩
section
variable{tg tc:aP}{ty:BT}{u:an}{x:my}{f:Nat->Nat×az}{o n c:Nat}{a:Option aF}{es:Nat->eT}{aw a9:List aj}
end
structure DL(u:an)(es:Nat->eT)(o n:Nat)(aw:List aj):Prop where
 po:∀j,j<n->o=aw.length
 rd:∀j,j<n->jx u (es j).x (es j).n (es j).c (dP u (es j).x)
 x4:∀j,kx (es j).s.x
def DL.cp{u:an}{es dN:Nat->eT}{o n N:Nat}{aw:List aj}{bs:List jz}(h:DL u es o n aw)(hF:DD u es dN N bs):ayp dN N bs:=by
 intro j hj;obtain⟨b,q1,q2,q3,q4⟩:=hF.each j hj;refine⟨b,rC q1,by rw[q2];rfl,by rw[q2];rfl,by rw[q2];rfl,by rw[q3];unfold cY;omega,by rw[q4];exact ae4 u _,by rw[q2];exact h.x4 j⟩
def DL.few{tg:aP}{u:an}{es:Nat->eT}{o n c:Nat}{aw:List aj}{X:(dN:Nat->eT)->(bs:List jz)->Option aF->Nat->Nat->List aj->Nat->Prop}(h:DL u es o n aw)(hn:n<=c)
 (hX:∀dN bs x c' sV us,DD u es dN (cY 60 n) bs->X dN bs x c' sV us (cY 60 n)):agz tg u es o n c aw X:=⟨es,⟨rfl,rfl,h.po,hn,⟨tg,rfl⟩,h.rd⟩,hX⟩
def ayr{j N:Nat}(h:j<N):agA j N:=⟨oM,oM⟩
def Bm(j:Nat):((j:Int)).toNat=j:=tf j
def agB{tg tc:aP}{m:eY fr}{R:VB}(h1:m.k.tg=tg)(h2:m.k.tc=tc)(h3:m.R=R):Yz tg tc R m:=by
 subst h1 h2 h3;exact⟨rfl,rfl,rfl⟩
end
end Go.Proofs.YtddcipamdggcnaaGreatDoor
namespace Sd
def dU.run(C:aM)(crc:az->Nat->Int)(m:dU)(ev:Nat->Ev):Nat->dU
 |0=>m
 |n+1=>(dU.run C crc m ev n).go C crc (ev n)
def dU.of(p:aX):dU:=⟨⟨.new p,[],[]⟩,λ_=>(0,λ_=>0)⟩
end Sd
namespace Go.Proofs.YtddcipamdggcnaaGreatDoor
variable{fr:aQ->Nat×az}
def Gv(es:Nat->eT)(bs:List jz)(j:Nat):Ev:=⟨(es j).kind,(es j).src,(match bs[j]?with|some b=>b.n|none=>0),(match bs[j]?with|some b=>b.f|none=>λ_=>0),(es j).s,(es j).bad⟩
def PV(es:Nat->eT)(n:Nat)(bs:List jz):Prop:=∀j,j<n->∃b,bs[j]?=aa b/\(es j).x=b.x/\(es j).n=b.n/\(es j).c=b.c/\b.n<=120/\By b.f/\kx (es j).s.x
structure Bn(fr:aQ->Nat×az)(P:aX)(ev:Nat->Ev)(mc:eY fr)(ts:Nat->ai)(vs:Nat->jg)(j:Nat):Prop where
 ok:ql mc.k mc.s mc.F mc.G
 s:mc.s=fE ((Sd.dU.of P).run (aO aU) cn ev j).s
 r:f_ mc.G=((Sd.dU.of P).run (aO aU) cn ev j).r
 t:∀i,i<j->ts i=((Sd.dU.of P).run (aO aU) cn ev (i+1)).s/\zF fr (ts i) (vs i) mc.fB/\(ts i).bE.length<=10000/\(ts i).aY.length<=10000
structure pg(fr:aQ->Nat×az)(tg tc:aP)(u:an)(x:my)(n:Nat) where
 p:Nat->Int
 m:Nat->Nat
 d:Nat->Nat
 hM:Made x p m
 mc:eY fr
 YB:mc.k.tg=tg
 t_:mc.k.tc=tc
 es:Nat->eT
 bs:List jz
 ev:PV es n bs
 ex:Option aF
 ec:Nat
 et:Nat
 eu:List aj
 j:Nat
 hj:j<=n
 ts:Nat->ai
 vs:Nat->jg
 ok:Bn fr (nP (oz 4 p m d) (afW x u)) (Gv es bs) mc ts vs j
 x:Option aF
 c:Nat
 bk:List av
 h:dk 46 48 ((bg j).flatMap (jN ts vs)) x j c bk
def agC(ts:Nat->ai)(vs:Nat->jg)(x:Option aF)(j c:Nat)(bk:List av)(h:dk 46 48 ((bg j).flatMap (jN ts vs)) x j c bk):bD:=⟨48,46,(bg j).flatMap (jN ts vs),x,j,c,bk,h⟩
def YC:bD:=⟨48,46,[],ag,0,0,[],pF 46 _⟩
noncomputable def zsL:List V:=match lX f8 55 with|some z=>z|none=>[]
def KB(x:Option aF)(n c:Nat):VB:=⟨af,⟨101,(0,0)⟩,[.raw (.slice x n c)]⟩
section
variable(C:aM)(tg tc:aP)(ty:BT)(u:an)(x:my)(f:Nat->Nat×az)(o n c:Nat)(a:Option aF)(es:Nat->eT)(aw a9:List aj)
def YD(p:Nat->Int)(m d:Nat->Nat)(et:Nat)(dN:Nat->eT)(eu:List aj):List VB:=fO tg::Kk tc::nH ty n es aw a9::aym x f::(ayn x u m d++[Yy (oz 4 p m d),jf et 10 (cY 60 n) (kz dN) eu])
def Gw(p:Nat->Int)(m d:Nat->Nat)(et:Nat)(dN:Nat->eT)(eu:List aj):List VB:=YD tg tc ty u x f n es aw a9 p m d et dN eu++[Yy (oz 4 p m d),⟨af,⟨55,(0,0)⟩,zsL⟩]
def PW(y:pg fr tg tc u x (cY 60 n))(j:Int):List V:=[.ptr 11 0,.ptr 12 0,.ptr 13 0,.dB 9 0 (cY 60 n) y.ec y.ex,.int .i64 (cY 60 n),.int .i64 j]
def agD(y:pg fr tg tc u x (cY 60 n))(l:VB):List VB:=Gw tg tc ty u x f n es aw a9 y.p y.m y.d y.et y.es y.eu++[y.mc.R,l]
def YE(y:pg fr tg tc u x (cY 60 n)):List VB:=agD tg tc ty u x f n es aw a9 y (KB y.x y.j y.c)
def YF(y:pg fr tg tc u x (cY 60 n)):List (LG fr):=[.br u,.gu y.mc,.hJ y.bs,.row (agC y.ts y.vs y.x y.j y.c y.bk y.h)]
def PX:Lp (LG fr):=we (X:=pg fr tg tc u x (cY 60 n)) (λy=>cY 60 n-y.j) 31 14 [5,7,8,13,14,15] (λy=>PW tg tc u x n y y.j) (YE tg tc ty u x f n es aw a9) (YF tg tc u x n) (λ_=>rfl) (λ_=>kR) (λ_=>rfl)
def agE(C:aM)(m:eY fr)(e:eT)(rest:List (LG fr))(X:ai->jg->eY fr->Prop):Prop:=
 ql m.k m.s m.F m.G/\kx ⟨e.s.x.a,e.s.x.b,e.s.x.c,e.s.x.d⟩/\∃eb:jy,EvB e.kind e.src (.raw (.slice e.x e.n e.c)) rest eb/\
  ∀(t:ai),t=(Sd.dU.go C cn ⟨m.s,f_ m.G⟩ (jM e.kind e.src eb ⟨e.s.valid,⟨e.s.x.a,e.s.x.b,e.s.x.c,e.s.x.d⟩,e.s.qG⟩ e.bad)).s->∀(v:jg)(m':eY fr),Gt m m' t (Sd.dU.go C cn ⟨m.s,f_ m.G⟩ (jM e.kind e.src eb ⟨e.s.valid,⟨e.s.x.a,e.s.x.b,e.s.x.c,e.s.x.d⟩,e.s.qG⟩ e.bad)).r v->X t v m'
def YH(y:pg fr tg tc u x (cY 60 n)):Prop:=
 let N:=cY 60 n
 agA y.j N/\evP y.es y.j N/\Yz tg tc y.mc.R y.mc/\agE C y.mc (y.es (y.j:Int).toNat) ([]++[.hJ y.bs,.row (agC y.ts y.vs y.x y.j y.c y.bk y.h)]) λt v m'=>
  (V.raw (.slice y.x y.j y.c)=V.raw (.slice y.x y.j y.c)/\y.j+1<=1000000)/\∀(x':Option aF)(c':Nat)(bk:List av)(h:dk 46 48 ((bg y.j).flatMap (jN y.ts y.vs)++ao [] (wZ t v)) x' (y.j+1) c' bk),
   af=af/\uY (λy=>cY 60 n-y.j) (λy=>PW tg tc u x n y y.j) (YE tg tc ty u x f n es aw a9) (YF (fr:=fr) tg tc u x n) y (PW tg tc u x n y (i64.wrap ((y.j:Int)+1))) (agD tg tc ty u x f n es aw a9 y (KB x' (y.j+1) c')) [.br u,.gu m',.hJ y.bs,.row ⟨48,46,(bg y.j).flatMap (jN y.ts y.vs)++ao [] (wZ t v),x',y.j+1,c',bk,h⟩]
variable(Lf:(y:pg fr tg tc u x (cY 60 n))->Option aF->Nat->Nat->List aj->Prop)
def ays(y:pg fr tg tc u x (cY 60 n)):Prop:=Yz tg tc y.mc.R y.mc/\y.mc.s.c.p.queue=y.mc.k.most/\∀(za:Option aF)(zc zt:Nat)(zu:List aj),Lf y za zc zt zu
def ruX(p:Nat->Int)(m d:Nat->Nat)(et:Nat)(dN:Nat->eT)(eu:List aj)(ec:Nat)(ex:Option aF)(bs:List jz):Prop:=
 Py (oz 4 p m d) (n4 m)/\∀(p2:aX)(k:LK)(F:bx fr (bd k (mz p2)))(hN:XT (oz 4 p m d) (afW x u) tg tc p2 k)(v1:cC=F.vs)(v2:cC=F.vr),
  mkP (Gw tg tc ty u x f n es aw a9 p m d et dN eu) k p2 17/\∀(ic it:Nat)(b:Nat->Nat),ayo (Gw tg tc ty u x f n es aw a9 p m d et dN eu) (s8 k p2 F ic it b).R/\
   (af=af/\uX (λy=>PW (fr:=fr) tg tc u x n y y.j) (YE tg tc ty u x f n es aw a9) (YF tg tc u x n) [.ptr 11 0,.ptr 12 0,.ptr 13 0,.dB 9 0 (cY 60 n) ec ex,.int .i64 (cY 60 n),.int .i64 0] (Gw tg tc ty u x f n es aw a9 p m d et dN eu++[(s8 k p2 F ic it b).R,KB ag 0 0]) [.br u,.gu (s8 k p2 F ic it b),.hJ bs,.row YC])/\
   ∀(y:pg fr tg tc u x (cY 60 n))(g:Nat->aj),cond (decide ((y.j:Int)<(cY 60 n:Nat))) (YH C tg tc ty u x f n es aw a9 y) (ays tg tc u x n Lf y)
def YI(fr:aQ->Nat×az)(P:aL)(C:aM):List (bT (LG fr)):=[⟨11,af,PQ P⟩,⟨13,ah,Gc (Yx C)⟩,⟨14,af,Gc Kw⟩,⟨20,af,Gs⟩]
variable(K:VK (LG fr))
end
end Go.Proofs.YtddcipamdggcnaaGreatDoor
namespace Go.Proofs.YtddcipamdggcnaaGreatDoor
section
variable{fr:aQ->Nat×az}
section
variable{tg tc:aP}{ty:BT}{u:an}{x:my}{f:Nat->Nat×az}{n:Nat}{es:Nat->eT}{aw a9:List aj}{Lf:(y:pg fr tg tc u x (cY 60 n))->Option aF->Nat->Nat->List aj->Prop}
def ayt{p2:aX}{k:LK}{F:bx fr (bd k (mz p2))}{ev:Nat->Ev}{ic it:Nat}{b:Nat->Nat}(h:ql (fr:=fr) (s8 k p2 F ic it b).k (s8 k p2 F ic it b).s (s8 k p2 F ic it b).F (s8 k p2 F ic it b).G):Bn fr p2 ev (s8 k p2 F ic it b) (λ_=>mz p2) (λ_=>⟨ag,0,ag,0,λ_=>⟨ag,0,0⟩⟩) 0:=
 ⟨h,by show bV (mz p2)=fE (mz p2);rw[nu];rfl,rfl,λi hi=>absurd hi (Nat.not_lt_zero _)⟩
def ayu{m:eY fr}{es:Nat->eT}{n j:Nat}{bs:List jz}{rest:List (LG fr)}{X:ai->jg->eY fr->Prop}(hm:ql m.k m.s m.F m.G)(he:PV es n bs)(hj:j<n)(hb:LG.hJ bs∈rest)
 (hX:∀(t:ai),(t=(Sd.dU.go (aO aU) cn ⟨m.s,f_ m.G⟩ (Gv es bs j)).s)->∀(v:jg)(m':eY fr),Gt m m' t (Sd.dU.go (aO aU) cn ⟨m.s,f_ m.G⟩ (Gv es bs j)).r v->X t v m'):agE (aO aU) m (es j) rest X:=by
 obtain⟨b,iM,e1,e2,e3,e4,e5,e6⟩:=he j hj;have Ar:Gv es bs j=jM (es j).kind (es j).src b.red (es j).s (es j).bad:=by
  unfold Gv;rw[iM];rfl
 rw[Ar]at hX;refine⟨hm,e6,b.red,⟨λ_ _=>?_,.inr ⟨bs,hb,b,rC iM,rfl⟩,e5,h_ e4 dC⟩,λt ht v m' hR=>hX t ht v m' hR⟩;rw[e1,e2,e3];rfl
def Bn.next{P:aX}{ev:Nat->Ev}{mc m':eY fr}{ts:Nat->ai}{vs:Nat->jg}{j:Nat}{t:ai}{v:jg}(h:Bn fr P ev mc ts vs j)(ht:t=(Sd.dU.go (aO aU) cn ⟨mc.s,f_ mc.G⟩ (ev j)).s)
 (hF:Gt mc m' t (Sd.dU.go (aO aU) cn ⟨mc.s,f_ mc.G⟩ (ev j)).r v):Bn fr P ev m' (λi=>if i=j then t else ts i) (λi=>if i=j then v else vs i) (j+1):=by
 have e:Sd.dU.go (aO aU) cn ⟨mc.s,f_ mc.G⟩ (ev j)=(Sd.dU.of P).run (aO aU) cn ev (j+1):=by
  rw[h.s,h.r];rfl
 rw[e]at ht hF;refine⟨hF.ok,by rw[hF.s,ht],hF.rs,λi hi=>?_⟩;by_cases mW:i=j
 ·subst mW;rw[if_pos rfl,if_pos rfl];exact⟨ht,hF.at_,hF.nS,hF.nR⟩
 ·rw[if_neg mW,if_neg mW];obtain⟨q1,q2,q3⟩:=h.t i oM;obtain⟨e',he'⟩:=hF.f;exact⟨q1,q2.more λy hy=>by rw[he'];exact oF _ hy,q3⟩
def agF{ts:Nat->ai}{vs:Nat->jg}{j:Nat}{t:ai}{v:jg}:(bg j).flatMap (jN ts vs)++ao [] (wZ t v)=(bg (j+1)).flatMap (jN (λi=>if i=j then t else ts i) (λi=>if i=j then v else vs i)):=by
 rw[vK,vL];congr 1
 ·simp only[GF];congr 1;apply mB;intro i hi;have hi:=List.mem_range.1 hi;have mW:¬i=j:=oM;show _=ao [] (wZ (if i=j then t else ts i) (if i=j then v else vs i));rw[if_neg mW,if_neg mW];rfl
 ·rw[List.flatMap_cons,List.flatMap_nil,cy];show _=ao [] (wZ (if j=j then t else ts j) (if j=j then v else vs j));rw[if_pos rfl,if_pos rfl]
def ayv(y:pg fr tg tc u x (cY 60 n))(dy:y.j<cY 60 n):YH (aO aU) tg tc ty u x f n es aw a9 y:=by
 have uj:=Bm y.j;have h60:cY 60 n<=60:=by unfold cY;omega
 unfold YH;rw[uj];refine⟨ayr dy,⟨by rw[uj];exact dy,λi=>rfl⟩,agB y.YB y.t_ rfl,?_⟩;refine ayu y.ok.ok y.ev dy sP λt ht v m' hF=>⟨⟨rfl,oM⟩,λx' c' bk h=>⟨rfl,?_⟩⟩;have hN:=y.ok.next ht hF;refine⟨⟨y.p,y.m,y.d,y.hM,m',by rw[hF.k];exact y.YB,by rw[hF.k];exact y.t_,y.es,y.bs,y.ev,y.ex,y.ec,y.et,y.eu,y.j+1,dy,_,_,hN,x',c',bk,agF▸h⟩,by show cY 60 n-(y.j+1)<cY 60 n-y.j;omega,?_,?_,?_⟩
 ·rw[lg oM];rfl
 ·show Gw tg tc ty u x f n es aw a9 y.p y.m y.d y.et y.es y.eu++[y.mc.R,KB x' (y.j+1) c']=Gw tg tc ty u x f n es aw a9 y.p y.m y.d y.et y.es y.eu++[m'.R,KB x' (y.j+1) c'];rw[hF.R]
 ·show[LG.br u,.gu m',.hJ y.bs,.row _]=[LG.br u,.gu m',.hJ y.bs,.row _];rw[agu agF h];rfl
def ayw{p:Nat->Int}{m d:Nat->Nat}{et:Nat}{dN:Nat->eT}{eu:List aj}{ec:Nat}{ex:Option aF}{bs:List jz}(hM:Made x p m)(Ar:PV dN (cY 60 n) bs)
 (hK:∀y:pg fr tg tc u x (cY 60 n),y.j=cY 60 n->∀(za:Option aF)(zc zt:Nat)(zu:List aj),Lf y za zc zt zu):ruX (aO aU) tg tc ty u x f n es aw a9 Lf p m d et dN eu ec ex bs:=by
 have hb:∀j,j<4->1<=m j/\m j<=64:=λj hj=>by rw[hM.n j];exact afI _
 obtain⟨h1,h2⟩:=afV (m:=4) (d:=d) hM.I hM.o hb;have Vb:Py (oz 4 p m d) (n4 m):=⟨h1.code,λj hj=>by
  rw[<-h1.n j hj]
  match j,hj with
  |0,_=>rfl
  |1,_=>rfl
  |2,_=>rfl
  |3,_=>rfl
  |j+4,h=>exact absurd h oM,h1.k⟩
 refine⟨Vb,λp2 k F hN v1 v2=>⟨⟨rfl,by rw[nu],rfl,rfl⟩,λic it b=>⟨⟨_,rfl⟩,?_⟩⟩⟩;have hC:=awY hN (h2 _) (λj hj=>by rw[PD _ _ _ _ hj];exact hb j hj);have h0:=ayt (ev:=Gv dN bs) (ayq (fr:=fr) (F:=F) hC hN.most hN.qZ v1 v2 ic it b);refine⟨⟨rfl,⟨p,m,d,hM,s8 k p2 F ic it b,hN.tg,hN.tc,dN,bs,Ar,ex,ec,et,eu,0,oG _,_,_,by rw[<-hN.eq];exact h0,ag,0,[],pF 46 _⟩,rfl,rfl,rfl⟩,λy g=>?_⟩;refine aN (λe=>ayv y (by simpa using e)) (λe=>⟨agB y.YB y.t_ rfl,y.ok.ok.most,hK y ?_⟩);have h3:¬y.j<cY 60 n:=by simpa using e
 have:=y.hj;omega
end
def agG(K:VK (LG fr)):VK (LG fr):=λv b c=>match v,c with
 |.aD [.raw (.slice x n cc),sv,ev],.br u::.gu m::.hJ bs::.row g::rest=>cond (aC g.z 46&&(bY b.length b&&(dg b.length sv&&dg b.length ev))) (∃(ts:Nat->ai)(vs:Nat->jg),(tj x n cc=.slice g.x g.n g.c/\g.os=(bg g.n).flatMap (jN ts vs)/\(∃tg,b[0]?=aa (fO tg)))/\
  ∀(ty:Nat)(us:List aj),K (.aD [.dB b.length 0 n cc x,sv,ev]) (b++[jf ty 46 g.n (jN ts vs) us]) (.br u::.gu m::.hJ bs::rest)) False
 |_,_=>False
def agH(P:aL)(C:aM)(lp:Nat->List V->Option (Lp (LG fr))):dm (LG fr):=λak bl ch K=>bz (vE f8 gS (YI fr P C) Gk Kl lp) 60 19 ak bl (ch++[.row YC]) (bG bl.length (agG K))
def ayx(ht:Body (fr:=fr) 124 dE):aK f8 gS (YI fr f8 (aO aU)):=
 have n:∀{c:dm (LG fr)},(ah=af->gZ c):=λe=>by cases e
 aK.cons ⟨ax0,λ_=>ax2⟩ (aK.cons ⟨afG (ayl ht),n⟩ (aK.cons ⟨afG (ax9 ht),λ_=>ax8⟩ (aK.cons ⟨agv,λ_=>agw⟩ aK.nil)))
def ayy(ht:Body (fr:=fr) 124 dE)(lp:Nat->List V->Option (Lp (LG fr))):Sound f8 gS 19 (agH (fr:=fr) f8 (aO aU) lp):=by
 intro ak ae bl ch R ms w0 w K hg hl S hc;have hok:=ayx (fr:=fr) ht;have S0:St ms w0 (lits ae ae bl++ax (ch++[.row YC]) R) w:=by
  rw[k7];exact S
 refine(eO (C:=vE f8 gS (YI fr f8 (aO aU)) Gk Kl lp) hok.T hok.Q 60 hg hl S0 hc).mono ?_;rintro v w' ⟨x,aq,b9,ce,rfl,h1,S',hK⟩;obtain⟨v2,cj,b,hv,cK,S2,iQ⟩:=ig (n0:=bl.length) h1 (by simp[hl]) S' hK;have q_:(ae++aq).take bl.length=ae:=by rw[<-hl];exact List.take_left
 rw[q_]at hv cK S2;clear hK hc S' S0;unfold agG at iQ;split at iQ
 ·rename_i xx n cc sv ev u m bs g rest;cases hq:aC g.z 46&&(bY b.length b&&(dg b.length sv&&dg b.length ev))with
  |false=>rw[hq]at iQ;exact iQ.elim
  |true=>
   rw[hq]at iQ;obtain⟨ts,vs,⟨e1,e2,tg,e3⟩,Yo⟩:=iQ;simp only[bJ]at hq;obtain⟨_,q1,q2,q3⟩:=hq;have m0:=wV (ae:=ae++cj) (ae++cj) b cK 0 _ e3;have S3:St ms w0 (g.bl++(lits (ae++cj) (ae++cj) b++ax (.br u::.gu m::.hJ bs::rest) R)) w':=by
    refine S2.perm ?_;show lO (_++(cA u++(m.B++(ni bs++(g.bl++ax rest R))))) (_++(_++(cA u++(m.B++(ni bs++ax rest R)))));exact dW λf=>by simp only[ee];omega
   obtain⟨i1,t1,u1,r1,S5⟩:=Yw (g:=jN ts vs) g.h S3 (z0:=(ae++cj).getD 0 0) (tg:=tg) (cs:=ao (ae++cj) (fO tg).c) rfl (by simp only[dV];exact .inl m0) e2;refine⟨_,cj++[i1],_,_,?_,by rw[<-bZ,fH,cK];simp,?_,Yo t1 u1⟩
   ·rw[hv,<-bZ];have g1:(ae++cj++[i1]).getD b.length 0=i1:=by rw[<-cK];simp[gh]
    have d1:=gX (ae:=ae++cj) (aq:=[i1]) sv (by rw[cK];exact q2);have d2:=gX (ae:=ae++cj) (aq:=[i1]) ev (by rw[cK];exact q3);simp only[den,aJ,g1,d1,d2];rw[e1];simp only[Zj]at e1;rw[r1,e1.1,e1.2.1,e1.2.2]
   ·rw[<-bZ,fw _ _ _ _ cK,fy _ _ (by rw[cK];exact q1)];have e4:lits (ae++cj++[i1]) [i1] [jf t1 46 g.n (jN ts vs) u1]=[⟨i1,ah,.cells ((bg g.n).flatMap (jN ts vs)++u1).toArray t1 (0,0)⟩]:=by
     simp only[lits,aI,FT];rfl
    rw[e4];refine S5.perm ?_;exact dW λf=>by simp only[ee,j9,lQ];omega
 ·exact iQ.elim
def YJ:V->Int
 |.int .u8 n=>n
 |_=>0
def ph(h:Nat->Int):List V:=(bg 32).map λi=>.int .u8 (h i)
def KC:List V->Bool
 |[]=>af
 |.int .u8 _::l=>KC l
 |_=>ah
def YK(l:List V):Option (Nat->Int):=bif KC l&&aC l.length 32 then aa (λi=>YJ (nth l i))else ag
def Bo(h:Nat->Int):Nat->Int:=λi=>YJ (nth (ph h) i)
def agI(h:Nat->Int){i:Nat}(hi:i<32):Bo h i=h i:=by
 unfold Bo ph;rw[PC _ _ i i (by rw[pr hi])];rfl
def agJ(ae:List Nat):∀l:List V,KC l=af->ao ae l=(bg l.length).map λi=>fI .u8 (YJ (nth l i))
 |[],_=>rfl
 |v::l,h=>by
  unfold KC at h;split at h
  ·rename_i e;cases e
  ·rename_i n l' e;cases e;rw[jv,ta,gx,lN];simp only[ao,cl,den,agJ ae l h,fe,fu];rfl
  ·cases h
def agK{l:List V}{h:Nat->Int}(e:YK l=aa h)(ae:List Nat):(ao ae l).toArray=aH .u8 32 h:=by
 unfold YK at e;cases hb:KC l&&aC l.length 32 with
 |false=>rw[hb]at e;cases e
 |true=>
  rw[hb]at e;simp only[cond_true,a_]at e;subst e;rw[bJ]at hb;rw[agJ ae l hb.1,cw hb.2];rfl
def agL{f g:Nat->Int}(h:∀i,i<32->f i=g i):aH .u8 32 f=aH .u8 32 g:=by
 have e:(bg 32).map (λi=>fI .u8 (f i))=(bg 32).map λi=>.int .u8 (g i):=mB λi hi=>by rw[h i (List.mem_range.1 hi)]
 exact congrArg List.toArray e
def YL(h:Nat->Int)(ae:List Nat):(ao ae (ph h)).toArray=aH .u8 32 h:=by
 rw[agK (l:=ph h) (h:=Bo h) rfl ae];exact agL λi hi=>agI h hi
def zG(C:aM):QF:=⟨28,λak bl=>match ak,bl with
 |[.agg l,.agg [.int .i64 a,.int .i64 b,.int .i64 c,.int .i64 d,.int .i64 e,.int .i64 f]],⟨ah,⟨tg,(0,0)⟩,rc⟩::_=>(match YK l with
  |some h=>aa (rc=(fO tg).c,.agg (ph (C.next h ⟨a,b,c,d,e,f⟩)))
  |none=>ag)
 |_,_=>ag⟩
def oA:Nat->Option Nat:=λg=>bif aC g 0 then aa 0 else ag
def ayz:(zG (aO aU)).Ok f8 oA:=by
 intro ak bl p_ v_ h hp ae w hg hm;unfold zG at h;dsimp only at h;split at h
 ·rename_i l a b c d e f tg rc ci;split at h
  ·rename_i hh hr;simp only[a_,bI]at h;obtain⟨rfl,rfl⟩:=h;have h0:=(hg 0 0 rfl).2;have h1:=hm.2 0 _ rfl;rw[h0,hp]at h1;have hG:w.heap[0]?=aa (.cells (aH .u32 64 c9) tg (0,0)):=by
    rw[h1];simp only[fO,ao,cl,cy];rfl
   have:=Ud hh ⟨a,b,c,d,e,f⟩ w hG;have ea:(aJ ae [.agg l,.agg [.int .i64 a,.int .i64 b,.int .i64 c,.int .i64 d,.int .i64 e,.int .i64 f]]).toArray=#[.agg (aH .u8 32 hh),.agg (recC ⟨a,b,c,d,e,f⟩)]:=by
    simp only[aJ,den,agK hr,ao,cl,fe,fu];rfl
   rw[show(aJ ae [.agg l,.agg [.int .i64 a,.int .i64 b,.int .i64 c,.int .i64 d,.int .i64 e,.int .i64 f]]).toArray=_ from ea];refine this.mono ?_;rintro v w' ⟨rfl,cz⟩;refine⟨?_,cz⟩;simp only[den,YL];rfl
  ·cases h
 ·cases h
def nf(C:aM)(l:List Rec):Nat->Int:=l.foldl (λh r=>C.next (Bo h) r) λ_=>0
def ayA(C:aM)(l:List Rec)(r:Rec):nf C (l++[r])=C.next (Bo (nf C l)) r:=by unfold nf;rw[List.foldl_append];rfl
section
variable(C:aM)(tg:aP)(l:List Rec)(n c:Nat)(x:Option aF)(ty:BT)(us:List aj)(K:VK Empty)
def um:List VB:=[fO tg,⟨ah,ty,[.gm 6 n (fZ l),.rest us]⟩]
def YM(j:{j:Nat //j<=n}):List V:=[.ptr 2 0,.ptr 3 0,.dB 1 0 n c x,.int .i64 n,.int .i64 j.1]
def YN(j:{j:Nat //j<=n}):List VB:=um tg l n ty us++[⟨af,⟨46,(0,0)⟩,ph λ_=>0⟩,⟨af,⟨46,(0,0)⟩,ph (nf C (l.take j.1))⟩]
def KD:Lp Empty:=we (X:={j:Nat //j<=n}) (λj=>n-j.1) 17 4 [2,3,6,7,8] (YM n c x) (YN C tg l n ty us) (λ_=>[]) (λ_=>rfl) (λ_=>kR) (λ_=>rfl)
def ofE(j:{j:Nat //j<=n})(h:Nat->Int):Prop:=af=af/\uY (λj:{j:Nat //j<=n}=>n-j.1) (YM n c x) (YN C tg l n ty us) (λ_=>([]:List Empty)) j [.ptr 2 0,.ptr 3 0,.dB 1 0 n c x,.int .i64 n,.int .i64 (i64.wrap ((j.1:Int)+1))] (um tg l n ty us++[⟨af,⟨46,(0,0)⟩,ph λ_=>0⟩,⟨af,⟨46,(0,0)⟩,ph h⟩]) []
def ofX:Prop:=(af=af/\uX (YM n c x) (YN C tg l n ty us) (λ_=>([]:List Empty)) [.ptr 2 0,.ptr 3 0,.dB 1 0 n c x,.int .i64 n,.int .i64 0] (um tg l n ty us++[⟨af,⟨46,(0,0)⟩,ph λ_=>0⟩,⟨af,⟨46,(0,0)⟩,ph λ_=>0⟩]) [])/\
 ∀(j:{j:Nat //j<=n})(g:Nat->aj),cond (decide ((j.1:Int)<(n:Int))) ((0<=(j.1:Int)/\(j.1:Int)<(n:Int))/\((j.1:Int).toNat<n/\∀i,(fZ l i).length=6)/\(fO tg).c=(fO tg).c/\ofE C tg l n c x ty us j (C.next (Bo (nf C (l.take j.1))) (l.getD (j.1:Int).toNat default)))
  (K (.agg (ph (nf C (l.take j.1)))) (um tg l n ty us) [])
def agM:bz (pT f8 oA (qL Empty [zG C]) (ja 0 (KD C tg l n c x ty us))) 60 27 [.dB 1 0 n c x] (um tg l n ty us) [] (bG 2 K)=ofX C tg l n c x ty us K:=kR
end
def ayB{l:List Rec}{j:Nat}(h:j<l.length):l.take (j+1)=l.take j++[l.getD j default]:=by
 rw[List.take_add_one,qx,jh h];rfl
def agN{C:aM}{tg:aP}{l:List Rec}{n c:Nat}{x:Option aF}{ty:BT}{us:List aj}{K:VK Empty}(hn:l.length=n)(hb:n<=1000000)(hK:K (.agg (ph (nf C l))) (um tg l n ty us) []):ofX C tg l n c x ty us K:=by
 refine⟨⟨rfl,⟨0,oG _⟩,rfl,rfl,rfl⟩,λj g=>aN (λe=>?_) (λe=>?_)⟩
 ·have dy:j.1<n:=by simpa using e
  have uj:((j.1:Int)).toNat=j.1:=tf _;rw[uj];refine⟨⟨oM,oM⟩,⟨dy,λi=>rfl⟩,rfl,rfl,⟨j.1+1,dy⟩,by show n-(j.1+1)<n-j.1;omega,?_,?_,rfl⟩
  ·rw[lg oM];rfl
  ·rw[<-ayA,<-ayB oM];rfl
 ·have fJ:¬j.1<n:=by simpa using e
  rw[List.take_of_length_le oM];exact hK
def agO:∀(l:List Rec)(h h':Nat->Int),(∀i,i<32->h i=h' i)->∀i,i<32->l.foldl (λh r=>mf (Bo h) r) h i=l.foldl mf h' i
 |[],h,h',e,i,hi=>e i hi
 |r::l,h,h',e,i,hi=>by
  rw[xg,xg];refine agO l _ _ (λi hi=>?_) i hi;have:mf (Bo h) r=mf h' r:=by
   unfold mf;congr 1;funext j;unfold cH;cases hb:dq j 32 with
   |false=>rfl
   |true=>
    have hj:j<32:=by unfold dq at hb;exact eU hb
    simp only[cond_true];rw[agI h hj,e j hj]
  rw[this]
def agP(C:aM)(hC:C.next=mf)(l:List Rec):aH .u8 32 (nf C l)=aH .u8 32 (l.foldl mf λ_=>0):=by
 refine agL λk hk=>?_;unfold nf;rw[hC];exact agO l _ _ (λ_ _=>rfl) k hk
def ayC(i:Nat):Gl oA [0,i]:=by
 intro g j hg;unfold oA at hg;cases hb:aC g 0 with
 |false=>rw[hb]at hg;cases hg
 |true=>rw[hb]at hg;cases hg;exact⟨sP,(cw hb).symm⟩
def ayD{C:aM}(hok:aK (G:=Empty) f8 oA (qL Empty [zG C])){w:an}{tg:aP}(hG:w.heap[0]?=aa (.cells (aH .u32 64 c9) tg (0,0)))(l:List Rec)(hb:l.length<=1000000){x:Option aF}{c:Nat}{B:List av}(h:dk 6 64 (gz l) x l.length c B)(hB:∀y∈B,w.heap[y.id]?=aa y.obj):
 ba f8 27 #[.slice x l.length c] w λv w'=>v=.agg (aH .u8 32 (nf C l))/\Ch [] w w':=by
 have key:∃(i:Nat)(ty:BT)(us:List aj),tj x l.length c=.slice (bif aC l.length 0 then x else aa ⟨i,0,ag⟩) l.length c/\w.heap[i]?=aa (.cells ((bg l.length).flatMap (fZ l)++us).toArray ty.t ty.fz):=by
  rcases h.2.2 with⟨rfl,h0,rfl,rfl⟩|⟨b,tail,rfl,rfl,_⟩
  ·refine⟨0,tg,(aH .u32 64 c9).toList,by rw[h0];rfl,?_⟩;rw[hG,h0];rfl
  ·refine⟨b,64,tail,?_,?_⟩
   ·cases aC l.length 0<;>rfl
   ·rw[Dr];exact hB _ xk
 obtain⟨i,ty,us,hv,aV⟩:=key;have S:St [] w (lits [0,i] [0,i] (um tg l l.length ty us)++ax ([]:List Empty) []) w:=by
  refine St.Yj ?_;intro y hy;simp only[um,lits,ax,cy,cG,py,or_false]at hy;rcases hy with rfl|rfl
  ·exact⟨rfl,hG.trans kR⟩
  ·refine⟨rfl,aV.trans ?_⟩;simp only[aI,ao,cl,cy]
 have cT:bz (pT f8 oA (qL Empty [zG C]) (ja 0 (KD C tg l l.length c x ty us))) 60 27 [.dB 1 0 l.length c x] (um tg l l.length ty us) [] (bG 2 λv _ _=>v=.agg (ph (nf C l))):=by
  rw[agM];exact agN rfl hb rfl
 have cN:(aJ [0,i] [.dB 1 0 l.length c x]).toArray=#[.slice x l.length c]:=by
  rw[hv];rfl
 rw[<-cN];refine(eO (C:=pT f8 oA (qL Empty [zG C]) (ja 0 (KD C tg l l.length c x ty us))) (_root_.Go.Proofs.YtddcipamdggcnaaGreatDoor.aK.TL hok) (_root_.Go.Proofs.YtddcipamdggcnaaGreatDoor.aK.QL hok) 60 (ayC i) rfl S cT).mono ?_;rintro v w' ⟨y,aq,b9,ce,rfl,h1,S',hK⟩;obtain⟨v2,cj,ci,uh,-,S2,-,iQ⟩:=ig (n0:=2) h1 sP S' hK;refine⟨?_,S2.ch⟩;rw[uh];simp only[den,YL]
def YO:aK (G:=Empty) f8 oA (qL Empty [zG (aO aU)]):=kG (bW.cons ayz bW.nil)
def ofC(C:aM):dm (LG fr):=λak bl ch K=>match ak,ch,bl with
 |[v],.br u::.core g fB::.row r::rest,⟨ah,⟨tg,(0,0)⟩,rc⟩::ci=>∃l:List Rec,(v=r.v/\rc=(fO tg).c/\r.T=64/\r.z=6/\r.os=gz l/\r.n=l.length/\l.length<=1000000)/\K (.agg [.cu .u8 32 (l.foldl C.next λ_=>0)]) (⟨ah,⟨tg,(0,0)⟩,rc⟩::ci) (.br u::.core g fB::.row r::rest)
 |_,_,_=>False
def k_(C:aM):gZ (ofC (fr:=fr) C):=by
 intro ak bl ch K hc;unfold ofC at hc⊢;split at hc
 ·obtain⟨l,h,hK⟩:=hc;exact⟨l,h,hK,[],sP⟩
 ·exact hc.elim
def KE(P:aL):(bA->V)->Op->List VB->List (LG fr)->VK (LG fr)->Prop:=λe op bl ch K=>match op with
 |.call c=>(match c.callee,c.args.toList,c.argTypes.toList with
  |.builtin .append,[s,xs],[t,tx]=>(match P.underlying t,P.underlying tx with
   |some (.slice T),aa (.slice _)=>(match tP P T,e xs,ch with
    |some (z,ct),.raw (.slice a m cc),.row ⟨T',z',os,x,n,c0,bk,h⟩::rest=>cond (aC T' T&&(aC z' z&&ck ct 10000000))
     (∃(ry:List aj)(b2:List av),(dk z T ry a m cc b2/\(∀v∈ry,v.oneCell'=af)/\e s=.raw (.slice x n c0)/\(∀y∈b2,y∈ax rest [])/\n+m<=1000000)/\
      ∀(x':Option aF)(c':Nat)(bk':List av)(h':dk z T (os++ry) x' (n+m) c' bk'),K (.raw (.slice x' (n+m) c')) bl (.row ⟨T,z,os++ry,x',n+m,c',bk',h'⟩::rest)) False
    |_,_,_=>False)
   |_,_=>False)
  |_,_,_=>False)
 |_=>False
def YP{P:aL}{gl:Nat->Option Nat}:iF P gl (KE (fr:=fr) P):=by
 intro e op ae bl ch R ms w0 w K ρ o hg hl S bo ho h;unfold KE at h;split at h
 ·rename_i c;split at h
  ·rename_i s xs t tx fc cN dX;split at h
   ·rename_i T T2 ht gj;split at h
    ·rename_i z ct a m cc T' z' os x n c0 bk h0 rest cE fV;cases hq:aC T' T&&(aC z' z&&ck ct 10000000)with
     |false=>rw[hq]at h;exact h.elim
     |true=>
      rw[hq]at h;simp only[bJ]at hq;obtain⟨q1,q2,q3⟩:=hq;obtain rfl:=cw q1;obtain rfl:=cw q2;have q3:=eU q3;obtain⟨ry,b2,⟨h2,mK,hs,fW,hn⟩,hK⟩:=h;have aV:∀y∈b2,w.heap[y.id]?=aa y.obj:=λy hy=>S.at' (by
       refine oF _ ?_;show y∈bk++ax rest R;rw[fk R rest];exact oF _ (kB _ (fW y hy)))
      have fh:Src P z' tx (.slice a m cc) m ry w:=by
       rcases h2.2.2 with⟨rfl,rfl,rfl,rfl⟩|⟨b,tail,rfl,rfl,dl⟩
       ·have:ry=[]:=kX (by rw[h2.1];simp);subst this;exact Src.ofNil w gj 0
       ·refine qu w gj ⟨b,0,ag⟩ m cc _ h2.1 (λj u hj=>?_) mK;rw[iY,cell_of (aV _ (List.mem_singleton_self _)),d_];have JX:j<ry.length:=by
         rcases di j ry.length with h|h
         ·exact h
         ·rw[jA h]at hj;cases hj
        rw[j7,gB JX];exact hj
      have hi:=EI cE;have e1:lits ae ae bl++ax (.row ⟨T',z',os,x,n,c0,bk,h0⟩::rest) R=lits ae ae bl++(bk++ax rest R):=rfl;rw[e1]at S;have iM:(n+m)*ct<=140737488355328:=h_ (Nat.mul_le_mul hn q3) dC;obtain⟨v,w',b_,hc,x',c',b9,rfl,gi,n5⟩:=BN (P:=P) (ty:=o.type) h0 (λy hy=>S.at' (by simp[hy])) ct fh ht hi iM (h_ hn dC);have S2:=S.uG h0.wr hc (λy hy=>(n5 y hy).1) (λy hy=>(n5 y hy).2) gi.pw;refine⟨_,[],bl,_,w',.inl ?_,by simpa using hl,?_,hK x' c' b9 gi⟩
      ·obtain⟨mJ,ar,iO⟩:=c;simp only at fc cN dX;have e2:ar=#[s,xs]:=by rw[<-cN]
       have e3:iO=#[t,tx]:=by rw[<-dX]
       subst fc e2 e3;have:=jU (P:=P) (ρ:=ρ) (o:=o) ho (sv:=.slice x n c0) (xv:=.slice a m cc) (by rw[bo,hs];simp only[den]) (by rw[bo,fV];simp only[den]) b_;simpa[den]using this
      ·rw[cy];exact S2
    ·exact h.elim
   ·exact h.elim
  ·exact h.elim
 ·exact h.elim
def Bp(C:aM):dm (LG fr):=λak bl ch K=>match ak,ch with
 |[v],.row r::rest=>∃l:List Rec,((∃tg,bl[0]?=aa (fO tg))/\v=r.v/\r.T=64/\r.z=6/\r.os=gz l/\r.n=l.length/\l.length<=1000000)/\K (.agg [.cu .u8 32 (l.foldl C.next λ_=>0)]) bl (.row r::rest)
 |_,_=>False
def ayE:Sound f8 oA 27 (Bp (fr:=fr) (aO aU)):=by
 intro ak ae bl ch R ms w0 w K hg hl S hc;unfold Bp at hc;split at hc
 ·rename_i v r rest;obtain⟨l,⟨⟨tg,e0⟩,rfl,hT,hz,yN,hn,hb⟩,hK⟩:=hc;have h0:=(hg 0 0 rfl).2;have h1:=(gp hl S e0).2;rw[h0]at h1;have hG:w.heap[0]?=aa (.cells (aH .u32 64 c9) tg (0,0)):=by
   rw[h1];simp only[fO,ao,cl,cy];rfl
  have hr:=r.h;rw[hT,hz,yN,hn]at hr;have:=ayD YO hG l hb hr (λy hy=>S.at' (by
   refine oF _ ?_;show y∈r.bl++ax rest R;exact kB _ hy))
  rw[agP _ rfl]at this;have ea:(aJ ae [r.v]).toArray=#[.slice r.x l.length r.c]:=by
   simp only[bD.v,aJ,den,hn]
  rw[ea];refine this.mono ?_;rintro v w' ⟨rfl,cz⟩;refine⟨.agg [.cu .u8 32 (l.foldl mf λ_=>0)],[],_,_,?_,by simpa using hl,by simpa using S.quiet cz,hK⟩;simp only[den,ao,cl,cy];rfl
 ·exact hc.elim
def ayF(C:aM):gZ (Bp (fr:=fr) C):=by
 intro ak bl ch K hc;unfold Bp at hc⊢;split at hc
 ·obtain⟨l,h,hK⟩:=hc;exact⟨l,h,hK,[],sP⟩
 ·exact hc.elim
def dQ(ts:Nat->ai)(k:Nat):List Rec:=(bg k).flatMap λi=>(ts i).aY
def YQ:∀(a b:List Rec),gz (a++b)=gz a++gz b
 |[],b=>rfl
 |r::a,b=>by
  show(recC r).toList++gz (a++b)=((recC r).toList++gz a)++gz b;rw[YQ a b,bZ]
structure DM(ts:Nat->ai)(k:Nat) where
 j:Nat
 hj:j<=k
 x:Option aF
 c:Nat
 bk:List av
 h:dk 6 64 (gz (dQ ts j)) x (dQ ts j).length c bk
def PY:bD:=⟨64,6,[],ag,0,0,[],pF 6 _⟩
def KG(x:Option aF)(n c:Nat):VB:=⟨af,⟨104,(0,0)⟩,[.raw (.slice x n c)]⟩
section
variable(C:aM)(tg:aP)(ty:BT)(m:eY fr)(ts:Nat->ai)(vs:Nat->jg)(n k c:Nat)(x:Option aF)(us:List aj)
def zH:List VB:=[fO tg,⟨ah,ty,[.gm 46 n (jN ts vs),.rest us]⟩]
def KH(j:Int):List V:=[.ptr 2 0,.ptr 3 0,.dB 1 0 k c x,.int .i64 k,.int .i64 j]
def KI(l:VB):List VB:=zH tg ty ts vs n us++[⟨af,⟨46,(0,0)⟩,ph λ_=>0⟩,l]
def YR(y:DM ts k):List VB:=KI tg ty ts vs n us (KG y.x (dQ ts y.j).length y.c)
def YS(y:DM ts k):List (LG fr):=[.row ⟨64,6,gz (dQ ts y.j),y.x,(dQ ts y.j).length,y.c,y.bk,y.h⟩,.gu m]
def YT:Lp (LG fr):=we (X:=DM ts k) (λy=>k-y.j) 22 4 [3,4,7,8,9] (λy=>KH k c x y.j) (YR tg ty ts vs n k us) (YS m ts k) (λ_=>rfl) (λ_=>kR) (λ_=>rfl)
def agQ(y:DM ts k):Prop:=
 let j:=(y.j:Int).toNat
 (0<=(y.j:Int)/\(y.j:Int)<(k:Int))/\(j<n/\∀i,(jN ts vs i).length=46)/\∃(ry:List aj)(b2:List av),(dk 6 64 ry (vs j).x2 (ts j).aY.length (vs j).c2 b2/\(∀v∈ry,v.oneCell'=af)/\V.raw (.slice y.x (dQ ts y.j).length y.c)=V.raw (.slice y.x (dQ ts y.j).length y.c)/\(∀b∈b2,b∈ax [LG.gu m] [])/\(dQ ts y.j).length+(ts j).aY.length<=1000000)/\
  ∀(x':Option aF)(c':Nat)(bk:List av)(h:dk 6 64 (gz (dQ ts y.j)++ry) x' ((dQ ts y.j).length+(ts j).aY.length) c' bk),
   af=af/\uY (λy=>k-y.j) (λy=>KH k c x y.j) (YR tg ty ts vs n k us) (YS m ts k) y (KH k c x (i64.wrap ((y.j:Int)+1))) (KI tg ty ts vs n us (KG x' ((dQ ts y.j).length+(ts j).aY.length) c')) [.row ⟨64,6,gz (dQ ts y.j)++ry,x',(dQ ts y.j).length+(ts j).aY.length,c',bk,h⟩,.gu m]
variable(K:VK (LG fr))
def ayG(y:DM ts k):Prop:=
 let r:bD:=⟨64,6,gz (dQ ts y.j),y.x,(dQ ts y.j).length,y.c,y.bk,y.h⟩
 ∃l:List Rec,((∃t,aa (fO tg)=aa (fO t))/\V.raw (.slice y.x (dQ ts y.j).length y.c)=r.v/\r.T=64/\r.z=6/\r.os=gz l/\r.n=l.length/\l.length<=1000000)/\
  K (.aD [.raw (.slice y.x (dQ ts y.j).length y.c),.agg [.cu .u8 32 (l.foldl C.next λ_=>0)]]) (zH tg ty ts vs n us) [.row r,.gu m]
def trX:Prop:=(af=af/\uX (λy:DM ts k=>KH k c x y.j) (YR tg ty ts vs n k us) (YS m ts k) (KH k c x 0) (KI tg ty ts vs n us (KG ag 0 0)) [.row PY,.gu m])/\
 ∀(y:DM ts k)(g:Nat->aj),cond (decide ((y.j:Int)<(k:Int))) (agQ tg ty m ts vs n k c x us y) (ayG C tg ty m ts vs n k us K y)
def ayH:bz (vE f8 oA [⟨27,af,Bp C⟩] (KE f8) YP (λi _=>ja 0 (YT tg ty m ts vs n k c x us) i)) 60 22 [.dB 1 0 k c x] (zH tg ty ts vs n us) [.row PY,.gu m] (bG 2 K)=trX C tg ty m ts vs n k c x us K:=kR
end
def ayI{T z n n' c:Nat}{os os':List aj}{x:Option aF}{bk:List av}(e:os=os')(e2:n=n')(h:dk z T os x n c bk):(⟨T,z,os,x,n,c,bk,h⟩:bD)=⟨T,z,os',x,n',c,bk,by subst e e2;exact h⟩:=by subst e e2;rfl
def PZ(ts:Nat->ai)(k:Nat):dQ ts (k+1)=dQ ts k++(ts k).aY:=by
 unfold dQ;rw[vK,vL,List.flatMap_cons,List.flatMap_nil,cy]
def YU{ts:Nat->ai}:∀k,(∀j,j<k->(ts j).aY.length<=10000)->(dQ ts k).length<=10000*k
 |0,_=>cW 0
 |k+1,h=>by
  rw[PZ,fH];have:=YU k λj hj=>h j oM;have:=h k oM;omega
def agR:∀(l:List Rec),∀v∈gz l,v.oneCell'=af
 |[],v,h=>by cases h
 |r::l,v,h=>by
  rcases dV.1 (show v∈(recC r).toList++gz l from h)with h|h
  ·have:v=.int .i64 r.kind\/v=.int .i64 r.source\/v=.int .i64 r.seq\/v=.int .i64 r.au\/v=.int .i64 r.code\/v=.int .i64 r.how:=by simpa[recC]using h
   rcases this with rfl|rfl|rfl|rfl|rfl|rfl<;>rfl
  ·exact agR l v h
section
variable{C:aM}{tg:aP}{ty:BT}{m:eY fr}{ts:Nat->ai}{vs:Nat->jg}{n k c:Nat}{x:Option aF}{us:List aj}{K:VK (LG fr)}
def ayJ(kS:k<=n)(hn:n<=60)(ht:∀j,j<n->zF fr (ts j) (vs j) m.fB/\(ts j).aY.length<=10000)(hK:∀(x':Option aF)(c':Nat)(bk:List av)(h:dk 6 64 (gz (dQ ts k)) x' (dQ ts k).length c' bk),
 K (.aD [.raw (.slice x' (dQ ts k).length c'),.agg [.cu .u8 32 ((dQ ts k).foldl C.next λ_=>0)]]) (zH tg ty ts vs n us) [.row ⟨64,6,gz (dQ ts k),x',(dQ ts k).length,c',bk,h⟩,.gu m]):trX C tg ty m ts vs n k c x us K:=by
 refine⟨⟨rfl,⟨0,oG _,ag,0,[],pF 6 _⟩,rfl,rfl,rfl⟩,λy g=>?_⟩;have hj:=y.hj;have hl:=YU (ts:=ts) y.j λi hi=>(ht i oM).2;refine aN (λe=>?_) (λe=>?_)
 ·have h1:y.j<k:=by simpa using e
  have uj:=Bm y.j;unfold agQ;rw[uj];obtain⟨hr,hrl⟩:=ht y.j oM;obtain⟨b,iM,fW⟩:=hr.r;rw[Dr]at iM;refine⟨⟨oM,oM⟩,⟨oM,λi=>agy ts vs i⟩,gz (ts y.j).aY,b,⟨iM,agR _,rfl,λq hq=>?_,oM⟩,λx' c' bk h=>⟨rfl,?_⟩⟩
  ·show q∈m.B++[];rw[cy];exact oF _ (oF _ (kB _ (fW q hq)))
  ·have e1:gz (dQ ts y.j)++gz (ts y.j).aY=gz (dQ ts (y.j+1)):=by rw[PZ,YQ]
   have e2:(dQ ts y.j).length+(ts y.j).aY.length=(dQ ts (y.j+1)).length:=by rw[PZ,fH]
   refine⟨⟨y.j+1,h1,x',c',bk,by rw[<-e1,<-e2];exact h⟩,by show k-(y.j+1)<k-y.j;omega,?_,?_,?_⟩
   ·rw[lg oM];rfl
   ·show KI tg ty ts vs n us (KG x' ((dQ ts y.j).length+(ts y.j).aY.length) c')=KI tg ty ts vs n us (KG x' (dQ ts (y.j+1)).length c');rw[e2]
   ·show[LG.row _,LG.gu m]=[LG.row _,LG.gu m];rw[ayI e1 e2 h]
 ·have h1:¬y.j<k:=by simpa using e
  obtain⟨j,mF,x',c',bk,h⟩:=y;simp only at h1 hj hl;obtain rfl:j=k:=oM;exact⟨dQ ts j,⟨⟨tg,rfl⟩,rfl,rfl,rfl,rfl,rfl,oM⟩,hK x' c' bk h⟩
end
def trl1(C:aM)(i k:Nat)(bl:List VB)(ch:List (LG fr))(K:VK (LG fr)):Prop:=match ch with
 |.br u::.gu m::rest=>(match bl[i]?with
  |some ⟨ah,ty,[.gm 46 n g,.rest us]⟩=>cond (bY bl.length bl) (∃(ts:Nat->ai)(vs:Nat->jg),(g=jN ts vs/\k<=n/\n<=60/\(∃tg,bl[0]?=aa (fO tg))/\∀j,j<n->zF fr (ts j) (vs j) m.fB/\(ts j).aY.length<=10000)/\
   ∀(x':Option aF)(c' sV:Nat)(YV:List aj),(dQ ts k).length<=c'->K (.aD [.dB bl.length 0 (dQ ts k).length c' x',.agg [.cu .u8 32 ((dQ ts k).foldl C.next λ_=>0)]]) (bl++[jf sV 6 (dQ ts k).length (fZ (dQ ts k)) YV]) (.br u::.gu m::rest)) False
  |_=>False)
 |_=>False
def trl0(bl:List VB)(ch:List (LG fr))(K:VK (LG fr)):Prop:=match ch with
 |.br u::.gu m::rest=>cond (bY bl.length bl) ((∃tg,bl[0]?=aa (fO tg))/\∀(x':Option aF)(c' sV:Nat)(YV:List aj),K (.aD [.dB bl.length 0 0 c' x',.agg [.cu .u8 32 λ_=>0]]) (bl++[jf sV 6 0 (fZ []) YV]) (.br u::.gu m::rest)) False
 |_=>False
def KJ(C:aM):dm (LG fr):=λak bl ch K=>match ak with
 |[.raw (.slice ag 0 0)]=>trl0 bl ch K
 |[.dB i 0 k c x]=>trl1 C i k bl ch K
 |[.sl i 0 k c]=>trl1 C i k bl ch K
 |_=>False
def agS(i:Nat):Gl oA [0,i]:=by
 intro g j hg;unfold oA at hg;cases hb:aC g 0 with
 |false=>rw[hb]at hg;cases hg
 |true=>rw[hb]at hg;cases hg;exact⟨sP,(cw hb).symm⟩
def trl2_ok{bi k n:Nat}{bl:List VB}{u:an}{m:eY fr}{rest:List (LG fr)}{K:VK (LG fr)}{ae:List Nat}{R:List av}{ms:List Nat}{w0 w:an}{ty:BT}{ts:Nat->ai}{vs:Nat->jg}{us:List aj}{tg:aP}(hg:Gl gS ae)(hl:ae.length=bl.length)(S:St ms w0 (lits ae ae bl++ax (.br u::.gu m::rest) R) w)(x:Option aF)(c:Nat)
 (hq:bY bl.length bl=af) (m1:aI ae bi ⟨ah,ty,[.gm 46 n (jN ts vs),.rest us]⟩∈lits ae ae bl) (kS:k<=n) (hn:n<=60) (e0:bl[0]?=aa (fO tg)) (ht:∀j,j<n->zF fr (ts j) (vs j) m.fB/\(ts j).aY.length<=10000)
 (hK:∀(x':Option aF)(c' sV:Nat)(YV:List aj),(dQ ts k).length<=c'->K (.aD [.dB bl.length 0 (dQ ts k).length c' x',.agg [.cu .u8 32 ((dQ ts k).foldl mf λ_=>0)]]) (bl++[jf sV 6 (dQ ts k).length (fZ (dQ ts k)) YV]) (.br u::.gu m::rest)):
 ba f8 22 #[.slice (bif aC k 0 then x else aa ⟨bi,0,ag⟩) k c] w λv w'=>∃y aq b9 ce,v=den (ae++aq) y/\(ae++aq).length=b9.length/\St ms w0 (lits (ae++aq) (ae++aq) b9++ax ce R) w'/\K y b9 ce:=by
 have m0:=wV (ae:=ae) ae bl hl 0 _ e0;have g0:=(hg 0 0 rfl).2;rw[g0]at m0;have q0:aI ae 0 (fO tg)=aI [0,bi] 0 (fO tg):=jL rfl;have q1:aI ae bi ⟨ah,ty,[.gm 46 n (jN ts vs),.rest us]⟩=aI [0,bi] bi ⟨ah,ty,[.gm 46 n (jN ts vs),.rest us]⟩:=jL (b:=⟨ah,ty,[.gm 46 n (jN ts vs),.rest us]⟩) rfl;have S1:St ms w0 (lits [0,bi] [0,bi] (zH tg ty ts vs n us)++ax [LG.row (fr:=fr) PY,.gu m] (lits ae ae bl++(cA u++ax rest R))) w:=by
  have Sa:=(S.dup (kB _ m1) rfl).dup (qA _ (kB _ m0)) rfl;rw[q0,q1]at Sa;refine Sa.perm ?_;show lO (_::_::(lits ae ae bl++(cA u++(m.B++ax rest R)))) ([_,_]++([]++(m.B++(lits ae ae bl++(cA u++ax rest R)))));exact dW λf=>by simp only[ee,j9,lQ];omega
 have cT:bz (vE f8 oA [⟨27,af,Bp (fr:=fr) (aO aU)⟩] (KE f8) YP (λi _=>ja 0 (YT tg ty m ts vs n k c x us) i)) 60 22 [.dB 1 0 k c x] (zH tg ty ts vs n us) [.row PY,.gu m]
  (bG 2 λv b ch=>∃(x':Option aF)(c':Nat)(bk:List av)(h:dk 6 64 (gz (dQ ts k)) x' (dQ ts k).length c' bk),v=.aD [.raw (.slice x' (dQ ts k).length c'),.agg [.cu .u8 32 ((dQ ts k).foldl mf λ_=>0)]]/\b=zH tg ty ts vs n us/\ch=[.row ⟨64,6,gz (dQ ts k),x',(dQ ts k).length,c',bk,h⟩,.gu m]):=by
  rw[ayH];exact ayJ kS hn ht λx' c' bk h=>⟨x',c',bk,h,rfl,rfl,rfl⟩
 have cN:#[tj (bif aC k 0 then x else aa ⟨bi,0,ag⟩) k c]=(aJ [0,bi] [.dB 1 0 k c x]).toArray:=rfl;rw[cN];have hok:aK (G:=LG fr) f8 oA [⟨27,af,Bp (fr:=fr) (aO aU)⟩]:=aK.cons ⟨ayE,λ_=>ayF _⟩ aK.nil;refine(eO (C:=vE f8 oA [⟨27,af,Bp (fr:=fr) (aO aU)⟩] (KE f8) YP (λi _=>ja 0 (YT tg ty m ts vs n k c x us) i)) hok.T hok.Q 60 (agS bi) rfl S1 cT).mono ?_;rintro v w' ⟨y,aq,b9,ce,rfl,h1,S',sd⟩;obtain⟨v2,cj,ci,hv,cK,S2,x',c',bk,h,rfl,rfl,rfl⟩:=ig (n0:=2) h1 sP S' sd;obtain rfl:cj=[]:=kX (by simpa[zH]using cK);have q_:([0,bi]++aq).take 2=[0,bi]:=rfl;rw[q_,cy]at S2;rw[q_]at hv;have S3:St ms w0 (bk++(lits ae ae bl++(cA u++(m.B++ax rest R)))) w':=by
  have S4:St ms w0 (lits [0,bi] [0,bi] (zH tg ty ts vs n us)++(bk++(m.B++(lits ae ae bl++(cA u++ax rest R))))) w':=S2;refine(S4.sub (kM _ _)).perm ?_;exact dW λf=>by simp only[ee];omega
 have m0':=wV (ae:=ae) ae bl hl 0 _ e0;obtain⟨i1,t1,u1,r1,S5⟩:=Yw (g:=fZ (dQ ts k)) h S3 (z0:=ae.getD 0 0) (tg:=tg) (cs:=ao ae (fO tg).c) rfl (by simp only[dV];exact .inl m0') (Dr _).symm;refine⟨_,[i1],_,_,?_,by simp[hl],?_,hK x' c' t1 u1 h.2.1⟩
 ·rw[hv];have e1:(ae++[i1]).getD bl.length 0=i1:=by rw[<-hl];simp[gh]
  simp only[den,aJ,ao,cl,e1];rw[r1]
 ·have e2:lits (ae++[i1]) [i1] [jf t1 6 (dQ ts k).length (fZ (dQ ts k)) u1]=[⟨i1,ah,.cells ((bg (dQ ts k).length).flatMap (fZ (dQ ts k))++u1).toArray t1 (0,0)⟩]:=by
   simp only[lits,aI,FT];rfl
  rw[fw _ _ _ _ hl,fy _ _ (by rw[hl];exact hq),e2];refine S5.perm ?_;show lO _ ((lits ae ae bl++[_])++(cA u++(m.B++ax rest R)));exact dW λf=>by simp only[ee,j9,lQ];omega
def trl1_ok{i k:Nat}{bl:List VB}{ch:List (LG fr)}{K:VK (LG fr)}{ae:List Nat}{R:List av}{ms:List Nat}{w0 w:an}(hg:Gl gS ae)(hl:ae.length=bl.length)(S:St ms w0 (lits ae ae bl++ax ch R) w)(x:Option aF)(c:Nat)(hc:trl1 (aO aU) i k bl ch K):
 ba f8 22 #[.slice (bif aC k 0 then x else aa ⟨ae.getD i 0,0,ag⟩) k c] w λv w'=>∃y aq b9 ce,v=den (ae++aq) y/\(ae++aq).length=b9.length/\St ms w0 (lits (ae++aq) (ae++aq) b9++ax ce R) w'/\K y b9 ce:=by
 unfold trl1 at hc;split at hc
 ·rename_i u m rest;split at hc
  ·rename_i ty n g us hb;cases hq:bY bl.length bl with
   |false=>rw[hq]at hc;exact hc.elim
   |true=>
    rw[hq]at hc;obtain⟨ts,vs,⟨rfl,kS,hn,⟨tg,e0⟩,ht⟩,hK⟩:=hc;exact trl2_ok hg hl S x c hq (wV (ae:=ae) ae bl hl i _ hb) kS hn e0 ht hK
  ·exact hc.elim
 ·exact hc.elim
def trl0_ok{bl:List VB}{ch:List (LG fr)}{K:VK (LG fr)}{ae:List Nat}{R:List av}{ms:List Nat}{w0 w:an}(hg:Gl gS ae)(hl:ae.length=bl.length)(S:St ms w0 (lits ae ae bl++ax ch R) w)(hc:trl0 bl ch K):
 ba f8 22 #[.slice ag 0 0] w λv w'=>∃y aq b9 ce,v=den (ae++aq) y/\(ae++aq).length=b9.length/\St ms w0 (lits (ae++aq) (ae++aq) b9++ax ce R) w'/\K y b9 ce:=by
 unfold trl0 at hc;split at hc
 ·rename_i u m rest;cases hq:bY bl.length bl with
  |false=>rw[hq]at hc;exact hc.elim
  |true=>
   rw[hq]at hc;obtain⟨⟨tg,e0⟩,hK⟩:=hc;have m0:=wV (ae:=ae) ae bl hl 0 _ e0;exact trl2_ok (k:=0) (n:=0) (bi:=ae.getD 0 0) (ty:=⟨tg,(0,0)⟩) (ts:=λ_=>m.s) (vs:=λ_=>⟨ag,0,ag,0,λ_=>⟨ag,0,0⟩⟩) (us:=ao ae [.cu .u32 64 c9]) hg hl S ag 0 hq
    (by simpa[aI,fO,ao,cl]using m0) (cW _) dC e0 (λj hj=>absurd hj (Nat.not_lt_zero _)) λx' c' sV YV _=>hK x' c' sV YV
 ·exact hc.elim
def ayK:Sound f8 gS 22 (KJ (fr:=fr) (aO aU)):=by
 intro ak ae bl ch R ms w0 w K hg hl S hc;unfold KJ at hc;split at hc
 ·exact trl0_ok hg hl S hc
 ·rename_i i k c x;exact trl1_ok hg hl S x c hc
 ·rename_i i k c;have:=trl1_ok hg hl S (aa ⟨ae.getD i 0,0,ag⟩) c hc;have e:(bif aC k 0 then aa (⟨ae.getD i 0,0,ag⟩:aF)else aa ⟨ae.getD i 0,0,ag⟩)=aa ⟨ae.getD i 0,0,ag⟩:=by cases aC k 0<;>rfl
  rw[e]at this;exact this
 ·exact hc.elim
def trl1_quiet{C:aM}{i k:Nat}{bl:List VB}{ch:List (LG fr)}{K:VK (LG fr)}(hc:trl1 C i k bl ch K):trl1 C i k bl ch λv b9 ce=>K v b9 ce/\∃e,b9=bl++e:=by
 unfold trl1 at hc⊢;split at hc
 ·split at hc
  ·revert hc;cases bY bl.length bl with
   |false=>exact λh=>h.elim
   |true=>
    rintro⟨ts,vs,h,hK⟩;exact⟨ts,vs,h,λx' c' sV YV hc=>⟨hK x' c' sV YV hc,_,rfl⟩⟩
  ·exact hc.elim
 ·exact hc.elim
def ayL(C:aM):gZ (KJ (fr:=fr) C):=by
 intro ak bl ch K hc;unfold KJ at hc⊢;split at hc
 ·unfold trl0 at hc⊢;split at hc
  ·revert hc;cases bY bl.length bl with
   |false=>exact λh=>h.elim
   |true=>exact λh=>⟨h.1,λx' c' sV YV=>⟨h.2 x' c' sV YV,_,rfl⟩⟩
  ·exact hc.elim
 ·exact trl1_quiet hc
 ·exact trl1_quiet hc
 ·exact hc.elim
end
end Go.Proofs.YtddcipamdggcnaaGreatDoor
namespace Sd
structure ayM(C:aM)(s s':ai):Prop where
 head:s'.c.head=s'.aY.foldl C.next s.c.head
 lo:∀r∈s'.aY,s.c.t.au<=r.au
 hi:∀r∈s'.aY,r.au<=s'.c.t.au
 up:s'.aY.Pairwise λa b=>a.au<=b.au
 ep:s.c.t.au<=s'.c.t.au
def YW{l:List Rec}{e:Int}(h:∀r∈l,r.au=e):l.Pairwise λa b=>a.au<=b.au:=by
 refine List.pairwise_of_forall_mem_list λa ha b hb=>?_;rw[h a ha,h b hb];exact uy _
def ayN{C:aM}{b:Prop}{s s':ai}{k l:Int}(h:gb C b s s' k l)(hr:s.aY=[]):ayM C s s':=by
 rcases h.AL with q|⟨how,g,w⟩
 ·obtain⟨rs,r1,r2,r3⟩:=q.aY;rw[hr,fu]at r1;have he:∀r∈s'.aY,r.au=s.c.t.au:=λr h=>by rw[r1]at h;exact(r2 r h).2.1
  refine⟨by rw[r1];exact r3,λr h=>by rw[he r h];exact uy _,λr h=>by rw[he r h,q.au];exact uy _,YW he,by rw[q.au];exact uy _⟩
 ·obtain⟨aw,n,a9,q1,q2,q3,q4,q5⟩:=g.aY;rw[hr,fu]at q1;have hle:s.c.t.au<=s'.c.t.au:=by rcases g.au with⟨_,e⟩|⟨e1,e2,_⟩<;>omega
  have hx:∀r∈s'.aY,(r∈aw/\r.au=s.c.t.au)\/r.au=s'.c.t.au:=by
   intro r hm;rw[q1]at hm;rcases dV.1 hm with hm|hm
   ·exact .inl ⟨hm,(q2 r hm).2.1⟩
   ·rcases cG.1 hm with rfl|hm
    ·exact .inr rfl
    ·exact .inr (q4 r hm).2.1
  refine⟨by rw[q1];exact q5,λr h=>?_,λr h=>?_,?_,hle⟩
  ·rcases hx r h with⟨_,e⟩|e<;>omega
  ·rcases hx r h with⟨_,e⟩|e<;>omega
  ·rw[q1];have hp:∀r∈(⟨8,s'.c.t.aS,n,s'.c.t.au,0,how⟩::a9:List Rec),r.au=s'.c.t.au:=by
    intro r hm;rcases cG.1 hm with rfl|hm
    ·rfl
    ·exact(q4 r hm).2.1
   refine DQ.2 ⟨YW λr h=>(q2 r h).2.1,YW hp,λa ha b hb=>?_⟩;rw[(q2 a ha).2.1,hp b hb];exact hle
end Sd
namespace Sd
variable{C:aM}{crc:az->Nat->Int}
structure nI(C:aM)(e0:Int)(h0:az)(S:ai):Prop where
 inv:Inv S.c
 head:S.c.head=S.aY.foldl C.next h0
 rb:∀r∈S.aY,oV True r
 lo:∀r∈S.aY,e0<=r.au
 hi:∀r∈S.aY,r.au<=S.c.t.au
 up:S.aY.Pairwise λa b=>a.au<=b.au
 ep:e0<=S.c.t.au
def nI.bare{s:ai}(h:Inv s.c):nI C s.c.t.au s.c.head s.bare:=⟨h,rfl,(λr hr=>nomatch hr),(λr hr=>nomatch hr),(λr hr=>nomatch hr),ag5,uy _⟩
def ayO{b:Prop}{s s':ai}{k l:Int}(h:gb C b s s' k l)(hr:s.aY=[]):∀r∈s'.aY,oV b r:=by
 rcases h.AL with q|⟨how,g,w⟩
 ·obtain⟨rs,r1,r2,r3⟩:=q.aY;rw[hr,fu]at r1;intro r hm;rw[r1]at hm;exact(r2 r hm).2.2
 ·obtain⟨aw,n,a9,q1,q2,q3,q4,q5⟩:=g.aY;rw[hr,fu]at q1;intro r hm;rw[q1]at hm;rcases dV.1 hm with hm|hm
  ·exact(q2 r hm).2.2
  ·rcases cG.1 hm with rfl|hm
   ·exact q3
   ·exact(q4 r hm).2.2
def nI.glue{e0 e1:Int}{h0 h1:az}{S s':ai}(h:nI C e0 h0 S)(k:nI C e1 h1 s')(he:e1=S.c.t.au)(hh:h1=S.c.head):nI C e0 h0 (S.glue s'):=by
 subst he hh;refine⟨k.inv,?_,?_,?_,?_,?_,vM h.ep k.ep⟩
 ·show s'.c.head=(S.aY++s'.aY).foldl C.next h0;rw[List.foldl_append,<-h.head];exact k.head
 ·intro r hr;rcases dV.1 hr with hr|hr
  ·exact h.rb r hr
  ·exact k.rb r hr
 ·intro r hr;rcases dV.1 hr with hr|hr
  ·exact h.lo r hr
  ·exact vM h.ep (k.lo r hr)
 ·intro r hr;rcases dV.1 hr with hr|hr
  ·exact vM (h.hi r hr) k.ep
  ·exact k.hi r hr
 ·exact DQ.2 ⟨h.up,k.up,λa ha b hb=>vM (h.hi a ha) (k.lo b hb)⟩
def nI.P1{S s':ai}{k l:Int}(hE:gb C True S.bare s' k l):nI C S.c.t.au S.c.head s':=by
 have hH:=ayN hE rfl;exact⟨hE.1,hH.head,ayO hE rfl,hH.lo,hH.hi,hH.up,hH.ep⟩
def ayP(n:Nat)(f:az):(dZ crc n f).kind=3->0<=(dZ crc n f).code/\(dZ crc n f).code<=255:=by
 unfold dZ
 repeat' split
 all_goals first|(intro _;exact⟨dC,dC⟩)|(intro _;exact⟨(by show(0:Int)<=0;decide),(by show(0:Int)<=255;decide)⟩)
def agT:∀(k n:Nat)(f:az),∀i∈(iW crc k n f).1,0<=i.code/\i.code<=255
 |0,n,f,i,h=>nomatch h
 |k+1,n,f,i,h=>by
  unfold iW at h;dsimp only at h;split at h
  ·exact nomatch h
  ·rcases dV.1 h with h|h
   ·unfold ug at h;split at h
    ·obtain rfl:=jS.1 h;exact⟨by show(0:Int)<=0;decide,by show(0:Int)<=255;decide⟩
    ·split at h
     ·rename_i h3;obtain rfl:=jS.1 h;exact ayP n f h3
     ·exact nomatch h
   ·exact agT k _ _ i h
def agU(hC:AN C){e0 l:Int}{h0:az}(hl:1<=l/\l<=3):∀(fF:List It)(S:ai),(∀i∈fF,0<=i.code/\i.code<=255)->nI C e0 h0 S->nI C e0 h0 (ui C l fF S)
 |[],S,_,hS=>hS
 |i::fF,S,hi,hS=>by
  refine agU hC hl fF _ (λj hj=>hi j (qA _ hj)) ?_;exact hS.glue (nI.P1 (Un (b:=True) (s:=S.bare) hC hS.inv hl λ_=>hi i xk)) rfl rfl
def ayQ(hC:AN C)(m:dU)(ev:Ev)(h:Inv m.s.c):nI C m.s.c.t.au m.s.c.head (m.go C crc ev).s:=by
 have hb:nI C m.s.c.t.au m.s.c.head m.s.bare:=.bare h;unfold dU.go;split
 ·split
  ·rename_i hl;exact agU hC hl _ _ (agT _ _ _) hb
  ·exact hb
 split
 ·exact nI.P1 (WN (b:=True) (s:=m.s.bare.bare) h)
 split
 ·exact nI.P1 (WO (b:=True) (s:=m.s.bare.bare) h)
 split
 ·exact nI.P1 (WT (b:=True) (s:=m.s.bare.bare) h).1
 ·exact hb
def runT(C:aM)(crc:az->Nat->Int)(m:dU)(ev:Nat->Ev)(j:Nat):List Rec:=(bg j).flatMap λi=>(m.run C crc ev (i+1)).s.aY
def agV(m:dU)(ev:Nat->Ev)(j:Nat):runT C crc m ev (j+1)=runT C crc m ev j++(m.run C crc ev (j+1)).s.aY:=by
 unfold runT;rw[vK,vL,List.flatMap_cons,List.flatMap_nil,cy]
def agW(hC:AN C){m:dU}(ev:Nat->Ev)(h:Inv m.s.c)(hr:m.s.aY=[]):∀j,nI C m.s.c.t.au m.s.c.head ⟨(m.run C crc ev j).s.c,[],runT C crc m ev j⟩
 |0=>⟨h,rfl,(λr hr=>nomatch hr),(λr hr=>nomatch hr),(λr hr=>nomatch hr),ag5,uy _⟩
 |j+1=>by
  have ih:=agW hC ev h hr j;have hg:=ayQ (crc:=crc) hC (m.run C crc ev j) (ev j) ih.inv;have hs:=ih.glue hg rfl rfl;have e:(⟨(m.run C crc ev (j+1)).s.c,[],runT C crc m ev (j+1)⟩:ai)=⟨((⟨(m.run C crc ev j).s.c,[],runT C crc m ev j⟩:ai).glue ((m.run C crc ev j).go C crc (ev j)).s).c,[],((⟨(m.run C crc ev j).s.c,[],runT C crc m ev j⟩:ai).glue ((m.run C crc ev j).go C crc (ev j)).s).aY⟩:=by
   rw[agV];rfl
  rw[e];exact⟨hs.inv,hs.head,hs.rb,hs.lo,hs.hi,hs.up,hs.ep⟩
end Sd
namespace Go.Proofs.YtddcipamdggcnaaGreatDoor
end Go.Proofs.YtddcipamdggcnaaGreatDoor
namespace Go.Proofs.YtddcipamdggcnaaGreatDoor
section
variable{fr:aQ->Nat×az}
def vG(f g:Nat->Int):Nat->Nat->Bool
 |0,_=>af
 |n+1,i=>f i==g i&&vG f g n (i+1)
def Bt(a b:Rec):Bool:=a.kind==b.kind&&(a.source==b.source&&(a.seq==b.seq&&(a.au==b.au&&(a.code==b.code&&(a.how==b.how&&af)))))
structure zI(fr:aQ->Nat×az)(tg tc:aP)(u:an)(x:my)(n:Nat) where
 y:pg fr tg tc u x n
 za:Option aF
 zc:Nat
 zt:Nat
 zu:List aj
 ts:Nat->ai
 vs:Nat->jg
 dt:Nat
 du:List aj
 l:List Rec
 lx:Option aF
 lc:Nat
 lt:Nat
 lu:List aj
 h:Nat->Int
 i:Nat
 up:l.Pairwise λa b=>a.au<=b.au
 rb:∀r∈l,Sd.oV True r
 len:l.length<=600000
 lo:1<=i
 hi:i<=l.length\/i=1
 cap:l.length<=lc
section
variable(C:aM)(tg tc:aP)(ty:BT)(u:an)(x:my)(f:Nat->Nat×az)(o n c:Nat)(a:Option aF)(es:Nat->eT)(aw a9:List aj)(wh:Int)
variable(K:V->Prop)
def rcQ(l:List Rec)(k:Int):Prop:=k.toNat<l.length/\∀j,(fZ l j).length=6
end
def rcV(r:Rec):V:=.agg [.int .i64 r.kind,.int .i64 r.source,.int .i64 r.seq,.int .i64 r.au,.int .i64 r.code,.int .i64 r.how]
def rcdH:(bA->V)->Op->List VB->List (LG fr)->VK (LG fr)->Prop:=λe op bl ch K=>match op with
 |.load t x=>(match e x with
  |.raw (.pointer a)=>∃(l:List Rec)(xa:Option aF)(m c:Nat)(b:List av),(t=64/\a=xa.map (λb=>b.add (m*6))/\dk 6 64 ((bg l.length).flatMap (fZ l)) xa l.length c b/\(∀y∈b,y∈ax ch [])/\m<l.length)/\K (rcV (l.getD m default)) bl ch
  |_=>False)
 |_=>False
def rcdH_ok{gl:Nat->Option Nat}:iF f8 gl (rcdH (fr:=fr)):=by
 intro e op ae bl ch R ms w0 w K ρ o hg hl S bo ho h;unfold rcdH at h;split at h
 ·rename_i t x;split at h
  ·rename_i a hx;obtain⟨l,xa,m,c,b,⟨rfl,rfl,hr,hb,hm⟩,hK⟩:=h;rcases hr.2.2 with⟨-,h0,-⟩|⟨b0,tail,rfl,rfl,-⟩
   ·omega
   ·have hy:=hb _ (jS.2 rfl);have aV:=S.at' (oF (lits ae ae bl) (show _∈ax ch R by rw[fk R ch];exact kB _ hy));have S1:St [] w (lits [b0] [b0] [jf 64 6 l.length (fZ l) tail]++ax ([]:List Empty) []) w:=by
     refine St.Yj ?_;intro y hy;simp only[lits,ax,cy,cG,py,or_false]at hy;subst hy;exact⟨rfl,aV.trans (by simp only[aI,jf,ao,cl,cy])⟩
    have h1:B2 f8 [jf 64 6 l.length (fZ l) tail] 64 (.pe 0 0 m 6 0)=aa ((m<l.length/\∀j,(fZ l j).length=6),rcV (l.getD m default)):=kR;have h2:=aas (ae:=[b0]) rfl S1 h1 ⟨hm,λj=>rfl⟩;refine⟨rcV (l.getD m default),[],bl,ch,w,.inl ?_,by simpa using hl,by simpa using S,hK⟩;have e1:den [b0] (.pe 0 0 m 6 0)=den ae (.raw (.pointer (Option.map (λb=>b.add (m*6)) (aa (⟨b0,0,ag⟩:aF))))):=by
     simp[den,qo]
    rw[e1]at h2;unfold execOp;simp only[ho,bo,hx,bH,h2];rfl
  ·exact h.elim
 ·exact h.elim
structure RtS(fr:aQ->Nat×az)(tg tc:aP)(u:an)(x:my)(n:Nat) where
 y:pg fr tg tc u x n
 za:Option aF
 zc:Nat
 zt:Nat
 zu:List aj
 dt:Nat
 du:List aj
 i:Nat
 hi:i<=y.j
structure RkS(fr:aQ->Nat×az)(tg tc:aP)(u:an)(x:my)(n:Nat) where
 z:RtS fr tg tc u x n
 lx:Option aF
 lc:Nat
 lt:Nat
 lu:List aj
 k:Nat
 dy:z.i<z.y.j
section
variable(C:aM)(tg tc:aP)(ty:BT)(u:an)(x:my)(f:Nat->Nat×az)(o n c:Nat)(a:Option aF)(es:Nat->eT)(aw a9:List aj)
def rtVV(z:RtS fr tg tc u x (cY 60 n))(i:Int)(m:Int):List V:=[.dB 11 0 z.y.j z.y.c z.y.x,.int .i64 m,.int .i64 i]
def rtV(z:RtS fr tg tc u x (cY 60 n)):List V:=rtVV tg tc u x n z z.i (dQ z.y.ts z.i).length
def rtB(z:RtS fr tg tc u x (cY 60 n)):List VB:=YD tg tc ty u x f n es aw a9 z.y.p z.y.m z.y.d z.y.et z.y.es z.y.eu++[jf z.zt 1 z.y.mc.s.c.q.length (ov z.y.mc.s.c.q) z.zu,jf z.dt 46 z.y.j (jN z.y.ts z.y.vs) z.du,⟨af,⟨55,(0,0)⟩,oZ z.y.mc.s (.dB 10 0 z.y.mc.s.c.q.length z.zc z.za)⟩]
def rtC(z:RtS fr tg tc u x (cY 60 n)):List (LG fr):=[.br u,.gu z.y.mc,.hJ z.y.bs]
def rtLp:Lp (LG fr):=we (X:=RtS fr tg tc u x (cY 60 n)) (λz=>cY 60 n-z.i) 122 13 [8,11,12] (rtV tg tc u x n) (rtB tg tc ty u x f n es aw a9) (rtC tg tc u x n) (λ_=>rfl) (λ_=>kR) (λ_=>rfl)
def rkVV(s:RkS fr tg tc u x (cY 60 n))(k:Int):List V:=[.dB 11 0 s.z.y.j s.z.y.c s.z.y.x,.int .i64 (i64.wrap ((dQ s.z.y.ts s.z.i).length+(s.z.y.ts s.z.i).aY.length)),.int .i64 s.z.i,.dB 13 0 (dQ s.z.y.ts (s.z.i+1)).length s.lc s.lx,.int .i64 k]
def rkB(s:RkS fr tg tc u x (cY 60 n)):List VB:=rtB tg tc ty u x f n es aw a9 s.z++[jf s.lt 6 (dQ s.z.y.ts (s.z.i+1)).length (fZ (dQ s.z.y.ts (s.z.i+1))) s.lu,⟨af,⟨46,(0,0)⟩,[.cu .u8 32 ((dQ s.z.y.ts (s.z.i+1)).foldl C.next λ_=>0)]⟩]
def rkLp(jv:Int):Lp (LG fr):=we (X:={s:RkS fr tg tc u x (cY 60 n) //(s.z.i:Int)=jv}) (λs=>(s.1.z.y.ts s.1.z.i).aY.length-s.1.k) 122 15 [8,11,12,13,15] (λs=>rkVV tg tc u x n s.1 s.1.k) (λs=>rkB C tg tc ty u x f n es aw a9 s.1) (λs=>rtC tg tc u x n s.1.z) (λ_=>rfl) (λ_=>kR) (λ_=>rfl)
def rtLps:Nat->List V->Option (Lp (LG fr)):=λi w=>bif aC i 0 then aa (rtLp tg tc ty u x f n es aw a9)else bif aC i 2 then(match nth w 12 with|.int .i64 jv=>aa (rkLp C tg tc ty u x f n es aw a9 jv)|_=>ag)else ag
def LRt(fr:aQ->Nat×az)(P:aL)(C:aM)(lp:Nat->List V->Option (Lp (LG fr))):List (bT (LG fr)):=[⟨18,ah,Gm⟩,⟨17,ah,PU⟩,⟨10,ah,XK⟩,⟨19,ah,agH P C lp⟩,⟨22,af,KJ C⟩]
variable(K:V->Prop)
def tdAt(z:RtS fr tg tc u x (cY 60 n))(N:Prop):Prop:=(0<=(z.i:Int)/\(z.i:Int)<(z.y.j:Int))/\((z.i:Int).toNat<z.y.j/\∀j,(jN z.y.ts z.y.vs j).length=46)/\N
def rtEn(z0:RtS fr tg tc u x (cY 60 n))(s:RkS fr tg tc u x (cY 60 n)):Prop:=
 af=af/\uY (λz=>cY 60 n-z.i) (rtV tg tc u x n) (rtB tg tc ty u x f n es aw a9) (rtC tg tc u x n) z0 (rtVV tg tc u x n s.z (i64.wrap ((s.z.i:Int)+1)) (i64.wrap ((dQ s.z.y.ts s.z.i).length+(s.z.y.ts s.z.i).aY.length))) (rtB tg tc ty u x f n es aw a9 s.z) (rtC tg tc u x n s.z)
def rkBody(z0:RtS fr tg tc u x (cY 60 n))(s:{s:RkS fr tg tc u x (cY 60 n) //(s.z.i:Int)=(z0.i:Int)}):Prop:=
 let z:=s.1.z
 let t:=z.y.ts (z.i:Int).toNat
 let l:=dQ z.y.ts (z.i+1)
 let P:=i64.wrap (i64.wrap (i64.wrap ((dQ z.y.ts z.i).length+(z.y.ts z.i).aY.length)-t.aY.length)+s.1.k)
 tdAt tg tc u x n z (cond (decide ((s.1.k:Int)<(t.aY.length:Int))) (tdAt tg tc u x n z ((0<=P/\P<(l.length:Int))/\rcQ l P/\tdAt tg tc u x n z (((0<=(s.1.k:Int)/\(s.1.k:Int)<(t.aY.length:Int))/\∃b,(z.y.vs (z.i:Int).toNat).x2=aa b)/\
  ∃(l2:List Rec)(xa:Option aF)(m c:Nat)(b:List av),(64=64/\(z.y.vs (z.i:Int).toNat).x2.map (λb=>b.add ((s.1.k:Int).toNat*6))=xa.map (λb=>b.add (m*6))/\dk 6 64 ((bg l2.length).flatMap (fZ l2)) xa l2.length c b/\(∀y∈b,y∈ax (rtC tg tc u x n z) [])/\m<l2.length)/\
   rkB C tg tc ty u x f n es aw a9 s.1=rkB C tg tc ty u x f n es aw a9 s.1/\cond (!(Bt (l.getD P.toNat default) (l2.getD m default))) (K (.bool ah))
    (af=af/\uY (λs:{s:RkS fr tg tc u x (cY 60 n) //(s.z.i:Int)=(z0.i:Int)}=>(s.1.z.y.ts s.1.z.i).aY.length-s.1.k) (λs=>rkVV tg tc u x n s.1 s.1.k) (λs=>rkB C tg tc ty u x f n es aw a9 s.1) (λs=>rtC tg tc u x n s.1.z) s (rkVV tg tc u x n s.1 (i64.wrap ((s.1.k:Int)+1))) (rkB C tg tc ty u x f n es aw a9 s.1) (rtC tg tc u x n z)))))
  (rtEn tg tc ty u x f n es aw a9 z0 s.1))
def rtBody(z:RtS fr tg tc u x (cY 60 n)):Prop:=
 let q:=i64.wrap ((z.i:Int)+1)
 let t:=z.y.ts (z.i:Int).toNat
 tdAt tg tc u x n z ((0<z.y.j/\0<=q/\q<=(z.y.c:Int))/\∃(DK:Nat->ai)(vs':Nat->jg),(jN z.y.ts z.y.vs=jN DK vs'/\q.toNat<=z.y.j/\z.y.j<=60/\(∃t,aa (fO tg)=aa (fO t))/\∀j,j<z.y.j->zF fr (DK j) (vs' j) z.y.mc.fB/\(DK j).aY.length<=10000)/\∀(lx:Option aF)(lc lt:Nat)(lu:List aj),(dQ DK q.toNat).length<=lc->
  let l:=dQ DK q.toNat
  let h:=l.foldl C.next λ_=>0
  let m:=i64.wrap ((dQ z.y.ts z.i).length+t.aY.length)
  tdAt tg tc u x n z (cond (!(vG h t.c.head 32 0)) (K (.bool ah)) (cond ((l.length:Int)!=m) (K (.bool ah))
   ((af=af/\uX (λs:{s:RkS fr tg tc u x (cY 60 n) //(s.z.i:Int)=(z.i:Int)}=>rkVV tg tc u x n s.1 s.1.k) (λs=>rkB C tg tc ty u x f n es aw a9 s.1) (λs=>rtC tg tc u x n s.1.z) [.dB 11 0 z.y.j z.y.c z.y.x,.int .i64 m,.int .i64 z.i,.dB 13 0 l.length lc lx,.int .i64 0]
    (rtB tg tc ty u x f n es aw a9 z++[jf lt 6 l.length (fZ l) lu,⟨af,⟨46,(0,0)⟩,[.cu .u8 32 h]⟩]) (rtC tg tc u x n z))/\
     ∀(s:{s:RkS fr tg tc u x (cY 60 n) //(s.z.i:Int)=(z.i:Int)})(g:Nat->aj),rkBody C tg tc ty u x f n es aw a9 K z s))))
def rtLf(y:pg fr tg tc u x (cY 60 n))(za:Option aF)(zc zt:Nat)(zu:List aj):Prop:=
 ∃(ts:Nat->ai)(vs:Nat->jg),(tj y.x y.j y.c=.slice y.x y.j y.c/\(bg y.j).flatMap (jN y.ts y.vs)=(bg y.j).flatMap (jN ts vs)/\∃t,aa (fO tg)=aa (fO t))/\∀(dt:Nat)(du:List aj),
  cond ((y.j:Int)!=(cY 60 n:Nat)) (K (.bool ah))
   ((af=af/\uX (rtV (fr:=fr) tg tc u x n) (rtB tg tc ty u x f n es aw a9) (rtC tg tc u x n) [.dB 11 0 y.j y.c y.x,.int .i64 0,.int .i64 0] (YD tg tc ty u x f n es aw a9 y.p y.m y.d y.et y.es y.eu++[jf zt 1 y.mc.s.c.q.length (ov y.mc.s.c.q) zu,jf dt 46 y.j (jN ts vs) du,⟨af,⟨55,(0,0)⟩,oZ y.mc.s (.dB 10 0 y.mc.s.c.q.length zc za)⟩]) [.br u,.gu y.mc,.hJ y.bs])/\
     ∀(z:RtS fr tg tc u x (cY 60 n))(g:Nat->aj),cond (decide ((z.i:Int)<(z.y.j:Int))) (rtBody C tg tc ty u x f n es aw a9 K z) ((∃t,aa (fO tg)=aa (fO t))/\∀(lx:Option aF)(lc lt:Nat)(lu:List aj),K (.bool af)))
def rnX:Prop:=rdA x u/\∀(p:Nat->Int)(m d:Nat->Nat)(hM:Made x p m),agz tg u es o n c aw λdN bs ex ec et eu N=>ruX (fr:=fr) C tg tc ty u x f n es aw a9 (rtLf C tg tc ty u x f n es aw a9 K) p m d et dN eu ec ex bs
def rn_vc:bz (vE f8 gS (LRt fr f8 C (λi _=>ja 0 (PX (fr:=fr) tg tc ty u x f n es aw a9) i)) rcdH rcdH_ok (rtLps (fr:=fr) C tg tc ty u x f n es aw a9)) 60 6 [.agg [.fi ⟨x.q,f⟩ x.ka x.kn x.kc],.dB 2 o n c a] [fO tg,Kk tc,nH ty n es aw a9] [.br u] (λv _ _=>K v)=rnX (fr:=fr) C tg tc ty u x f o n c es aw a9 K:=kR
end
def Y1{f g:Nat->Int}:∀(n i:Nat),vG f g n i=af↔∀k,k<n->f (i+k)=g (i+k)
 |0,i=>⟨λ_ k h=>absurd h (Nat.not_lt_zero _),λ_=>rfl⟩
 |n+1,i=>by
  unfold vG;rw[bJ,Y1 n (i+1)];refine⟨λ⟨h1,h2⟩ k hk=>?_,λh=>⟨by simpa using h 0 oM,λk hk=>?_⟩⟩
  ·cases k with
   |zero=>exact eq_of_beq h1
   |succ k=>have:=h2 k oM;rwa [show i+1+k=i+(k+1) by omega]at this
  ·rw[show i+1+k=i+(k+1) by omega];exact h (k+1) oM
def P5(f:Nat->Int)(n i:Nat):vG f f n i=af:=(Y1 n i).2 λ_ _=>rfl
def ay3(a:Rec):Bt a a=af:=by simp[Bt]
def ag2{P:aX}{ev:Nat->Ev}{mc:eY fr}{ts:Nat->ai}{vs:Nat->jg}{j:Nat}(h:Bn fr P ev mc ts vs j):∀k,k<=j->dQ ts k=Sd.runT (aO aU) cn (Sd.dU.of P) ev k
 |0,_=>rfl
 |k+1,hk=>by rw[PZ,Sd.agV,ag2 h k oM,(h.t k oM).1]
def Bn.dQ{P:aX}{ev:Nat->Ev}{mc:eY fr}{ts:Nat->ai}{vs:Nat->jg}{j:Nat}(h:Bn fr P ev mc ts vs j)(hP:fL P):Sd.nI (aO aU) (Sd.dU.of P).s.c.t.au (λ_=>0) ⟨((Sd.dU.of P).run (aO aU) cn ev j).s.c,[],dQ ts j⟩:=by
 rw[ag2 h j (cW _)];exact Sd.agW Dj ev (Sd.Inv.new hP) rfl j
section
variable{tg tc:aP}{ty:BT}{u:an}{x:my}{f:Nat->Nat×az}{o n c:Nat}{a:Option aF}{es:Nat->eT}{aw a9:List aj}{wh:Int}{K:V->Prop}
def DL.cpK{dN:Nat->eT}{N:Nat}{bs:List jz}(h:DL u es o n aw)(hF:DD u es dN N bs):PV dN N bs:=by
 intro j hj;obtain⟨b,q1,q2,q3,q4⟩:=hF.each j hj;refine⟨b,q1,by rw[q2];rfl,by rw[q2];rfl,by rw[q2];rfl,by rw[q3];unfold cY;omega,by rw[q4];exact ae4 u _,by rw[q2];exact h.x4 j⟩
end
def run_pre{P:aX}{ev:Nat->Ev}{mc:eY fr}{ts:Nat->ai}{vs:Nat->jg}{j:Nat}(h:Bn fr P ev mc ts vs j)(hP:fL P){k:Nat}(hk:k<=j):Sd.nI (aO aU) (Sd.dU.of P).s.c.t.au (λ_=>0) ⟨((Sd.dU.of P).run (aO aU) cn ev k).s.c,[],dQ ts k⟩:=by
 rw[ag2 h k hk];exact Sd.agW Dj ev (Sd.Inv.new hP) rfl k
def trl_at(ts:Nat->ai)(i k:Nat):(dQ ts (i+1)).getD ((dQ ts i).length+k) default=(ts i).aY.getD k default:=by
 rw[PZ,qx,vI oM,ag6,qx]
section
variable{tg tc:aP}{ty:BT}{u:an}{x:my}{f:Nat->Nat×az}{o n c:Nat}{a:Option aF}{es:Nat->eT}{aw a9:List aj}{K:V->Prop}
def tdAt_ok{z:RtS fr tg tc u x (cY 60 n)}(h:z.i<z.y.j){N:Prop}(hN:N):tdAt tg tc u x n z N:=⟨⟨oM,oM⟩,⟨by rw[Bm];exact h,λj=>agy _ _ j⟩,hN⟩
def rt_len(z:RtS fr tg tc u x (cY 60 n))(h:z.i<z.y.j):(dQ z.y.ts z.i).length<=600000/\(z.y.ts z.i).aY.length<=10000/\(dQ z.y.ts (z.i+1)).length=(dQ z.y.ts z.i).length+(z.y.ts z.i).aY.length/\z.y.j<=60:=by
 have h60:cY 60 n<=60:=by unfold cY;omega
 have hj:=z.y.hj;have h1:=YU (ts:=z.y.ts) z.i λj hj=>(z.y.ok.t j oM).2.2.2;refine⟨oM,(z.y.ok.t z.i h).2.2.2,by rw[PZ,fH],oM⟩
def rtEn_ok{z0:RtS fr tg tc u x (cY 60 n)}(s:RkS fr tg tc u x (cY 60 n))(hs:(s.z.i:Int)=(z0.i:Int)):rtEn tg tc ty u x f n es aw a9 z0 s:=by
 obtain⟨h1,h2,h3,h4⟩:=rt_len s.z s.dy;have dy:=s.dy;have hj:=s.z.y.hj;refine⟨rfl,⟨s.z.y,s.z.za,s.z.zc,s.z.zt,s.z.zu,s.z.dt,s.z.du,s.z.i+1,dy⟩,by show cY 60 n-(s.z.i+1)<cY 60 n-z0.i;omega,?_,rfl,rfl⟩;rw[lg oM,lg oM];show _=rtVV tg tc u x n _ ((s.z.i+1:Nat):Int) ((dQ s.z.y.ts (s.z.i+1)).length:Int);rw[h3];rfl
def rkBody_ok(z0:RtS fr tg tc u x (cY 60 n))(s:{s:RkS fr tg tc u x (cY 60 n) //(s.z.i:Int)=(z0.i:Int)}):rkBody (aO aU) tg tc ty u x f n es aw a9 K z0 s:=by
 obtain⟨s,hs⟩:=s;obtain⟨h1,h2,h3,h4⟩:=rt_len s.z s.dy;have dy:=s.dy;unfold rkBody;dsimp only;rw[Bm];refine tdAt_ok dy (aN (λe=>?_) λ_=>rtEn_ok s hs);have hk:s.k<(s.z.y.ts s.z.i).aY.length:=by simpa using e
 have hP:i64.wrap (i64.wrap (i64.wrap (((dQ s.z.y.ts s.z.i).length:Int)+((s.z.y.ts s.z.i).aY.length:Int))-((s.z.y.ts s.z.i).aY.length:Int))+(s.k:Int))=(((dQ s.z.y.ts s.z.i).length+s.k:Nat):Int):=by
  have e1:i64.wrap (((dQ s.z.y.ts s.z.i).length:Int)+((s.z.y.ts s.z.i).aY.length:Int))=((dQ s.z.y.ts s.z.i).length:Int)+((s.z.y.ts s.z.i).aY.length:Int):=lg oM;have e2:i64.wrap (((dQ s.z.y.ts s.z.i).length:Int)+((s.z.y.ts s.z.i).aY.length:Int)-((s.z.y.ts s.z.i).aY.length:Int))=((dQ s.z.y.ts s.z.i).length:Int):=by rw[lg oM];omega
  rw[e1,e2,lg oM];omega
 rw[hP,Bm,Bm];obtain⟨b,hb,hB⟩:=(s.z.y.ok.t s.z.i dy).2.1.r;refine tdAt_ok dy ⟨⟨oM,oM⟩,⟨by rw[Bm];omega,λj=>rfl⟩,tdAt_ok dy ⟨⟨⟨oM,oM⟩,?_⟩,(s.z.y.ts s.z.i).aY,(s.z.y.vs s.z.i).x2,s.k,(s.z.y.vs s.z.i).c2,b,⟨rfl,rfl,hb,λq hq=>?_,hk⟩,rfl,?_⟩⟩
 ·rcases hb.2.2 with⟨-,h0,-⟩|⟨b0,tail,h0,-⟩
  ·omega
  ·exact⟨_,h0⟩
 ·exact oF _ (kB _ (oF _ (oF _ (kB _ (hB q hq)))))
 ·rw[trl_at,ay3];refine⟨rfl,⟨⟨s.z,s.lx,s.lc,s.lt,s.lu,s.k+1,dy⟩,hs⟩,by show(s.z.y.ts s.z.i).aY.length-(s.k+1)<(s.z.y.ts s.z.i).aY.length-s.k;omega,?_,rfl,rfl⟩;rw[lg oM];rfl
def rtBody_ok(z:RtS fr tg tc u x (cY 60 n))(h:z.i<z.y.j):rtBody (aO aU) tg tc ty u x f n es aw a9 K z:=by
 obtain⟨h1,h2,h3,h4⟩:=rt_len z h;have hb:∀j,j<4->1<=z.y.m j/\z.y.m j<=64:=λj hj=>by rw[z.y.hM.n j];exact afI _
 have hT:=run_pre z.y.ok ((afV (m:=4) (d:=z.y.d) z.y.hM.I z.y.hM.o hb).2 _) (k:=z.i+1) h;have hh:(z.y.ts z.i).c.head=(dQ z.y.ts (z.i+1)).foldl (aO aU).next λ_=>0:=by
  rw[(z.y.ok.t z.i h).1];exact hT.head
 have hc:=z.y.h.2.1;unfold rtBody;dsimp only;rw[lg (x:=(z.i:Int)+1) oM,show(z.i:Int)+1=((z.i+1:Nat):Int) by omega,Bm,Bm];refine tdAt_ok h ⟨⟨oM,oM,oM⟩,z.y.ts,z.y.vs,⟨rfl,h,h4,⟨tg,rfl⟩,λj hj=>⟨(z.y.ok.t j hj).2.1,(z.y.ok.t j hj).2.2.2⟩⟩,λlx lc lt lu hl=>tdAt_ok h ?_⟩;rw[hh,P5];refine aN (λe=>by cases e) λ_=>aN (λe=>?_) λ_=>⟨⟨rfl,⟨⟨z,lx,lc,lt,lu,0,h⟩,rfl⟩,rfl,rfl,rfl⟩,λs g=>rkBody_ok z s⟩;rw[lg oM]at e;simp only[bne_iff_ne,ne_eq]at e;omega
def rn_ok(hr:rdA x u)(hn:n<=c)(hE:DL u es o n aw)(hK:K (.bool af)):rnX (fr:=fr) (aO aU) tg tc ty u x f o n c es aw a9 K:=by
 refine⟨hr,λp m d hM=>hE.few hn λdN bs ex ec et eu hF=>ayw hM (hE.cpK hF) λy hy za zc zt zu=>?_⟩;refine⟨y.ts,y.vs,⟨rfl,rfl,tg,rfl⟩,λdt du=>aN (λe=>?_) λ_=>⟨⟨rfl,⟨y,za,zc,zt,zu,dt,du,0,oG _⟩,rfl,rfl,rfl⟩,λz g=>aN (λe=>rtBody_ok z (by simpa using e)) λ_=>⟨⟨tg,rfl⟩,λ_ _ _ _=>hK⟩⟩⟩;rw[hy]at e;simp at e
end
end
section
def LRt_ok(lp:Nat->List V->Option (Lp (LG mA))):aK f8 gS (LRt mA f8 (aO aU) lp):=
 have n:∀{c:dm (LG mA)},(ah=af->gZ c):=λe=>by cases e
 aK.cons ⟨few_26S,n⟩ (aK.cons ⟨shn_26,n⟩ (aK.cons ⟨awv,n⟩ (aK.cons ⟨ayy axE lp,n⟩ (aK.cons ⟨ayK,λ_=>ayL _⟩ aK.nil))))
def rtrail_{W:an}{tg tc:aP}(hG:W.heap[0]?=aa (.cells (aH .u32 64 c9) tg (0,0)))(hC:W.heap[1]?=aa (.cells #[.bool ah,.bool ah,.bool ah,.bool ah,.bool ah,.bool ah,.bool ah,.bool ah,.bool ah,.bool ah,.bool af,.bool af] tc (0,0)))
 (q:Nat->Int) (ka:Nat->Option aF) (kn kc:Nat->Nat) (hr:∀j,j<4->jx W (ka j) (kn j) (kc j) (dP W (ka j))) {v:aj} {es:Nat->eT} {i o n c:Nat} {a:Option aF} {ty:BT} {aw a9:List aj} (hR:Bi W v 10 (kz es) i o n c a ty aw a9)
 (zE:∀j,j<n->jx W (es j).x (es j).n (es j).c (dP W (es j).x)) (hx4:∀j,kx (es j).s.x):
 ba f8 6 #[.agg (tK ⟨q,λ_=>(0,λ_=>0)⟩ ka kn kc).toArray,v] W λv w1=>v=.bool af/\Ch [] W w1:=by
 have S:=axI (fr:=mA) hG hC (i:=i) (b:=nH ty n es aw a9) rfl rfl (by
  rw[hR.at_];simp only[nH,ao,cl,cy])
 have cT:bz (vE f8 gS (LRt mA f8 (aO aU) (λi _=>ja 0 (PX (fr:=mA) tg tc ty W ⟨q,ka,kn,kc⟩ (λ_=>(0,λ_=>0)) n es aw a9) i)) rcdH rcdH_ok (rtLps (fr:=mA) (aO aU) tg tc ty W ⟨q,ka,kn,kc⟩ (λ_=>(0,λ_=>0)) n es aw a9)) 60 6 [.agg [.fi ⟨q,λ_=>(0,λ_=>0)⟩ ka kn kc],.dB 2 o n c a] [fO tg,Kk tc,nH ty n es aw a9] [.br W] (λv _ _=>v=.bool af):=by
  rw[rn_vc (x:=⟨q,ka,kn,kc⟩)];exact rn_ok ⟨hr 0 dC,hr 1 dC,hr 2 dC,hr 3 dC⟩ hR.le ⟨hR.po,zE,hx4⟩ rfl
 have cN:(aJ [0,1,i] [.agg [.fi ⟨q,λ_=>(0,λ_=>0)⟩ ka kn kc],.dB 2 o n c a]).toArray=#[.agg (tK ⟨q,λ_=>(0,λ_=>0)⟩ ka kn kc).toArray,v]:=by
  rw[hR.v];simp only[aJ,den,ao,cl,cy];rfl
 rw[<-cN];have hok:=LRt_ok (λi _=>ja 0 (PX (fr:=mA) tg tc ty W ⟨q,ka,kn,kc⟩ (λ_=>(0,λ_=>0)) n es aw a9) i);refine(eO (C:=vE f8 gS (LRt mA f8 (aO aU) (λi _=>ja 0 (PX (fr:=mA) tg tc ty W ⟨q,ka,kn,kc⟩ (λ_=>(0,λ_=>0)) n es aw a9) i)) rcdH rcdH_ok (rtLps (fr:=mA) (aO aU) tg tc ty W ⟨q,ka,kn,kc⟩ (λ_=>(0,λ_=>0)) n es aw a9)) hok.T hok.Q 60 (axJ i) rfl S cT).mono ?_;rintro v w' ⟨x,aq,b9,ce,rfl,h1,S',rfl⟩;exact⟨rfl,S'.ch⟩
end
end Go.Proofs.YtddcipamdggcnaaGreatDoor
namespace Go.Proofs.YtddcipamdggcnaaGreatDoor.runTrail
open Go.ChangeShapes Go.WideShapes Go.ChangeAt Go.RowKit Go.Joins Sd Sx
def opened(H:Type)(enc:aP×aj->H)(W:an)(ak:Array aj)(ds gs:List (DataW H))(before:List MemPlace)
 (Gy:∀(j:Nat) t v,Tryz.f6.params[j]?=aa t->ak[j]?=aa v->DX f8 W .any 0 t v)
 (hW:DataW.Whole enc f8 Tryz.f6.params.toList Rows.runTrailSpec.vars ah W ak.toList ds gs before) (hL:laidMetH f8 Yk W):
 Rows.runTrailSpec.fn H (ds++gs)={results:=[.lit (.bool af)],args:=ds,vars:=[]}/\Calls f8 6 ak W λe W'=>e=.returned (.bool af)/\Below W.heap.size W W':=by
 obtain⟨p,q,hA,hV,rfl,Bj,wa⟩:=hW;obtain⟨tG,hG⟩:=axL hL;obtain⟨tC,hC⟩:=axT hL;rw[Tryz.params6]at hA Gy;obtain⟨v0,v1,d0,d1,p0,p1,cN,rfl,_,PJ,PL⟩:=trodAll_two hA;obtain rfl:ak=#[v0,v1]:=by cases ak;simp_all
 obtain⟨rfl,rfl⟩:=trodVars_none hV;obtain⟨pq,ka,kn,kc,rfl,hk⟩:=axU (Gy 0 28 v0 rfl rfl) (λn=>by obtain⟨fuel,h⟩:=PJ;exact Sx.Kq n h);have lJ:=agl Tryz.underlying29 rfl (Gy 1 29 v1 rfl rfl);have zE:∀k,Sx.Rd f8 W k 29 [v1]:=λk=>by
  obtain⟨a,m,c,rfl,_,_⟩:=Yl Tryz.underlying29 lJ;obtain⟨fuel,h2⟩:=PL;exact Sx.Kq k h2
 obtain⟨es,i,o,n,c,a,ty,aw,a9,hR,hO,hx⟩:=axV lJ zE hG;exact⟨rfl,Sx.ahp (rtrail_ hG hC pq ka kn kc hk hR hO hx)⟩
def own:ownKnob f8.godebug=ag:=kR
def P6:List (String×DataW Unit):=[("sidestick/gate.commands",Rows.laid_sidestick_gate_commands),("sidestick/sha.roots",ahi)]
def azd(os:Os)(ak:Array aj):laidMetH f8 P6 ((World.doorLaid f8 400 os).forCall (λ_ _=>0) ⟨#[],ak,[]⟩).memory:=
 laidMetH_of_parts3 (fuel:=8) (laidMet_of_run' 8 kR kR) kR kR
def lifted(os:Os)(started:os.Started)(H:Type)(enc:aP×aj->H):
 ReturnsInHanded {} ahj os 6 .any (λw ak=>(Rows.runTrailSpec.pre enc f8 Tryz.f6 [] ah w ak/\laidMetH f8 P6 w)/\sizedMet enc f8 Tryz.f6 (OpenSpec.ofChange Rows.runTrailSpec) ah w ak)
  (Rows.runTrailSpec.post enc f8 Tryz.f6 ah af ah ah):=by
 refine returnsInHanded_of_change_and (C:=ahj) (X:=λw _=>laidMetH f8 P6 w) (λ_ _ _ hh h=>h.of_heap hh) own started kR Tryz.func6
  (ChangeSpec.witness_shaped (enc:=enc) (C:=ahj) (os:=os) (X:=λw _=>laidMetH f8 P6 w) ah (World.doorLaid f8 400 os) #[.agg #[.int .i64 0,.int .i64 0,.int .i64 0,.int .i64 0,.int .i64 0,.slice ag 0 0,.slice ag 0 0,.slice ag 0 0,.slice ag 0 0,.int .i64 0,.int .i64 0,.int .i64 0,.int .i64 0,.int .i64 0,.int .i64 0,.int .i64 0,.int .i64 0,.int .i64 0,.int .i64 0,.int .i64 0,.int .i64 0,.int .i64 0,.int .i64 0,.int .i64 0,.int .i64 0,.int .i64 0,.int .i64 0,.int .i64 0,.int .i64 0,.int .i64 0,.int .i64 0,.int .i64 0,.int .i64 0,.int .i64 0,.int .i64 0,.int .i64 0,.int .i64 0,.int .i64 0,.int .i64 0,.int .i64 0,.int .i64 0,.int .i64 0,.int .i64 0,.int .i64 0,.int .i64 0,.int .i64 0,.int .i64 0,.int .i64 0,.int .i64 0,.int .i64 0,.int .i64 0,.int .i64 0,.int .i64 0,.int .i64 0,.int .i64 0,.int .i64 0],.slice ag 0 0] 8 rfl (World.shaped_of_RefB kR kR) kR kR kR (azd os _)) ?_
 intro W base ak ds gs before Gy hW _ _ hL _;obtain⟨hs,hc⟩:=opened H enc W ak ds gs before Gy hW hL;refine hc.mono λe W' ⟨he,hb⟩=>⟨_,he,?_⟩;exact axM kR kR rfl kR Tryz.underlying4 hs hW hb
end Go.Proofs.YtddcipamdggcnaaGreatDoor.runTrail
