/- Part 6 of the proof. -/
import Derived.Test.YtddcipamdggcnaaGreatDoorProg
import Derived.ChangeArms
import Derived.OpenShut
import Derived.Deep.Slices
import Derived.Test.YtddcipamdggcnaaGreatDoorRows
import Derived.ProofKit
import Derived.FnData
import Derived.MakeChecks
import Derived.Stop.Joined
import Derived.WalkKit
import Derived.Below
import Derived.BigQuiet
import Derived.WalkSpells
import Derived.Lib.Hide
import Derived.Laws.CopyOwn
import Derived.Carry
import Derived.Test.YtddcipamdggcnaaGreatDoorU5
set_option linter.all false
set_option maxRecDepth 100000
set_option maxHeartbeats 4000000
noncomputable section
open Sd(Label X4 aQ aX ai az fC fL kx)
open Go.Proofs.Tryz
open Go.Proofs.Tryz renaming prog->du
open Go.IntKind (u8 u16 u32 u64 i64)
open Array renaming getElem?_eq_getElem->K4,getElem?_eq_none->KW,ext'->fP,length_toList->w7
open Bool renaming true->af,false->ah,cond_eq_ite->ahh,and_eq_true->bJ
open Go renaming Oper->aA,Addr->aF,Program->aL,TypeId->aP,Value->aj,World->an,Operand->bA,Exit->dR,FuncId->fG,IntKind->gw,heap_alloc_new->oB
open Go.Addr renaming add_lit->iY,add->qo
open Go.Builtin renaming zeroCells->rD
open Go.Cell renaming okWide->DY
open Go.DataW renaming trod->Qg
open Go.IntKind renaming wrap_u64->BD,bits->td,signed->te
open Go.MemPlace renaming row->Zi
open Go.Proofs.YtddcipamdggcnaaGreatDoor.Rows renaming laid_sidestick_sha_roots->ahi
open Go.Src renaming ofSlice->qu
open Go.Value renaming okWide->DX,bool->K8,int->fI,slice->tj
open Go.Value.slice renaming injEq->Zj
open Int renaming natCast_nonneg->BC,emod_eq_of_lt->KZ,ofNat->dS,fdiv->il,toNat_natCast->tf
open List renaming getElem?_of_mem->DP,getElem?_drop->GC,flatMap_def->GF,length_range->P_,getElem?_take->Qc,take_zero->Qe,getElem?_take_of_lt->Ze,append_assoc->bZ,range->bg,mem_cons->cG,append_nil->cy,mem_append->dV,countP_append->ee,length_append->fH,cons_append->fe,nil_append->fu,getElem?_append_left->gB,getD->gh,map_cons->gx,getElem?_toArray->j7,countP_cons->j9,getElem?_eq_none->jA,take_append_drop->jR,getElem?_eq_getElem->jh,length_cons->jv,getElem?_map->kA,mem_append_left->kB,sublist_append_right->kM,eq_nil_of_length_eq_zero->kX,map_map->lN,Perm->lO,countP_nil->lQ,map_congr_left->mB,mem_map->oC,replicate->oE,mem_append_right->oF,getElem?_range->pr,not_mem_nil->py,mem_cons_of_mem->qA,perm_append_comm_assoc->rG,range_succ_eq_map->ta,nodup_cons->uo,map_append->uw,getElem?_append_right->vI,range_succ->vK,flatMap_append->vL,length_take->w9,mem_cons_self->xk,ext_getElem?->zN
open List.Perm renaming swap->Bz,append_left->j8,cons->vJ,trans->xm
open List.Sublist renaming trans->ahg,append_left->mV
open Nat renaming le_of_not_lt->Zc,beq->aC,le_refl->cW,ble->ck,eq_of_beq_eq_true->cw,zero_add->d_,lt_or_ge->di,blt->dq,le_of_ble_eq_true->eU,le_trans->h_,add_zero->lM,add_mul->oD,zero_le->oG,beq_refl->uv,add_assoc->ux,ble_eq_true_of_le->w8
open Option renaming some->aa,none->ag,map_eq_some_iff->jr,map_some->pk
open Option.some renaming injEq->a_,inj->cP
open Prod.mk renaming injEq->bI
open Go Go.RowKit Go.BigFrame Sx Vx
namespace Go.Proofs.YtddcipamdggcnaaGreatDoor
section
variable{fr:aQ->Nat×az}
def afS(i:Nat)(v:V):Bool:=match v with
 |.int .i64 _=>!ll i
 |.sl _ 0 _ _=>ll i
 |_=>ah
def Gi:List V->Nat->Bool
 |[],i=>aC i 56
 |v::l,i=>afS i v&&Gi l (i+1)
def sI:V->Nat|.sl i _ _ _=>i|_=>0
def sM:V->Nat|.sl _ _ n _=>n|_=>0
def sK:V->Nat|.sl _ _ _ c=>c|_=>0
def DA(ae:List Nat)(i:Nat)(v:V):aj:=bif ll i then .slice (aa ⟨ae.getD (sI v) 0,0,ag⟩) (sM v) (sK v)else .int .i64 (iN v)
def afT(ae:List Nat):∀(l:List V)(i:Nat),Gi l i=af->i+l.length=56/\ao ae l=(bg l.length).map λj=>DA ae (i+j) (nth l j)
 |[],i,h=>⟨cw h,rfl⟩
 |v::l,i,h=>by
  unfold Gi at h;rw[bJ]at h;obtain⟨h1,h2⟩:=afT ae l (i+1) h.2;refine⟨by simp;omega,?_⟩;rw[jv,ta,gx,lN];simp only[ao,h2];have e:ao ae l=(bg l.length).map ((λj=>DA ae (i+j) (nth (v::l) j))∘Nat.succ):=by
   rw[h2];apply mB;intro j _;show DA ae (i+1+j) (nth l j)=DA ae (i+(j+1)) (nth l j);rw[show i+1+j=i+(j+1) by omega]
  rw[<-h2,e];have hv:cl v (den ae v)=[DA ae (i+0) (nth (v::l) 0)]:=by
   have h3:=h.1;unfold afS at h3;split at h3
   ·have:ll i=ah:=by simpa using h3
    simp only[cl,den,lU,lV,ly,DA,lM,this,cond_false,iN]
   ·simp only[cl,den,lU,lV,ly,DA,lM,h3,cond_true,sI,sM,sK]
   ·cases h3
  rw[hv];rfl
def Px(ae:List Nat)(l:List V)(j:Nat):Option aF:=aa ⟨ae.getD (sI (nth l (j+5))) 0,0,ag⟩
def ln(l:List V)(j:Nat):Nat:=sM (nth l (j+5))
def DB(l:List V)(j:Nat):Nat:=sK (nth l (j+5))
def nP(l:List V)(f:Nat->az):aX:=⟨λi=>iN (nth l i),λj=>(ln l j,f j)⟩
def awJ{l:List V}(h:Gi l 0=af)(f:Nat->az)(ae:List Nat):(ao ae l).toArray=ma (nP l f) (Px ae l) (ln l) (DB l):=by
 obtain⟨h1,h2⟩:=afT ae l 0 h;rw[h2,show l.length=56 by omega];rfl
def Gj(bl:List VB)(v:V):Option (Nat×az):=match v with
 |.sl i _ _ _=>(match bl[i]?with|some ⟨_,⟨5,(0,0)⟩,.cu .u8 m f::_⟩=>aa (m,f)|_=>ag)
 |_=>ag
def mkK(l:List V)(f:Nat->az)(ka:Nat->Option aF)(kc:Nat->Nat)(bq tg tc:Nat):LK:=⟨ka,ln l,kc,f,bq,tg,tc,iN (nth l 48),ag,0,0,λ_=>0⟩
def mz(p:aX):ai:=⟨.new p,[],[]⟩
structure Py(l:List V)(n:Nat->Nat):Prop where
 code:og (λi=>iN (nth l i)) (ln l)=0
 n:∀j,j<4->n j=ln l j
 k:∀j,j<4->ln l j<=64/\ln l j<=DB l j
structure XT(l:List V)(f:Nat->az)(tg tc:Nat)(p:aX)(k:LK):Prop where
 eq:p=nP l f
 kn:k.kn=ln l
 kf:k.kf=f
 tg:k.tg=tg
 tc:k.tc=tc
 most:k.most=p.queue
 qZ:k.px=ag/\k.pn=0/\k.pc=0
def XU:dm (LG fr):=λak bl ch K=>match ak,ch,bl with
 |[.agg l],.br u::rest,⟨w0,⟨tg,(0,0)⟩,c0⟩::⟨w1,⟨tc,(0,0)⟩,c1⟩::ci=>(match Gj (⟨w0,⟨tg,(0,0)⟩,c0⟩::⟨w1,⟨tc,(0,0)⟩,c1⟩::ci) (nth l 5),Gj (⟨w0,⟨tg,(0,0)⟩,c0⟩::⟨w1,⟨tc,(0,0)⟩,c1⟩::ci) (nth l 6),Gj (⟨w0,⟨tg,(0,0)⟩,c0⟩::⟨w1,⟨tc,(0,0)⟩,c1⟩::ci) (nth l 7),Gj (⟨w0,⟨tg,(0,0)⟩,c0⟩::⟨w1,⟨tc,(0,0)⟩,c1⟩::ci) (nth l 8)with
  |some (n0,f0),aa (n1,f1),aa (n2,f2),aa (n3,f3)=>cond (Gi l 0&&bY (ci.length+2) (⟨w0,⟨tg,(0,0)⟩,c0⟩::⟨w1,⟨tc,(0,0)⟩,c1⟩::ci))
   (Py l (k4 n0 n1 n2 n3)/\∀(p:aX)(k:LK)(F:bx fr (bd k (mz p))),XT l (k4 f0 f1 f2 f3) tg tc p k->cC=F.vs->cC=F.vr->
    K (.aD [.ptr (ci.length+2) 0,.int .i64 0]) (⟨w0,⟨tg,(0,0)⟩,c0⟩::⟨w1,⟨tc,(0,0)⟩,c1⟩::(ci++[fM k (ci.length+3) (mz p),fA (mz p)])) (.br u::.core (bj k (mz p) F) []::rest)) False
  |_,_,_,_=>False)
 |_,_,_=>False
def Pz{ae:List Nat}{bl:List VB}{X:List av}{ms:List Nat}{w0 w:an}{v:V}{m:Nat}{f:az}(hl:ae.length=bl.length)(S:St ms w0 (lits ae ae bl++X) w)(h:Gj bl v=aa (m,f))(hm:m<=64){c:Nat}(hc:m<=c):ei w (aa ⟨ae.getD (sI v) 0,0,ag⟩) m c f:=by
 unfold Gj at h;split at h
 ·rename_i i o n c';split at h
  ·rename_i wr m' f' r hb;obtain⟨rfl,rfl⟩:m'=m/\f'=f:=by simpa using h
   have aV:=(gp hl S hb).2;refine⟨oM,hc,(λe=>nomatch e),λx e j hj=>?_⟩;obtain rfl:⟨ae.getD i 0,0,ag⟩=x:=by simpa[sI]using e
   rw[iY,cell_of aV,d_];simp only[ao,cl,j7];rw[gB (by simpa using hj)];simp[pr hj]
  ·cases h
 ·cases h
def awK(k:LK)(p:aX)(b bt:Nat):aI (dc b bt) b (fM k 3 (mz p))=⟨b,af,.cells (tY p k.ka k.kn k.kc ⟨4,p.i 55,-1,⟨0,0⟩,⟨0,0⟩,ah⟩ k.bq (f3 ⟨0,ah,λ_=>0⟩ ⟨0,ah,λ_=>0⟩ ⟨0,ah,λ_=>0⟩) bt 0 0 (p.i 39) ⟨2,4,0⟩ ⟨1,⟨0,0,0,0⟩,⟨0,0,0,0⟩,⟨2,4,0⟩⟩ (λ_=>0)) 131 (0,0)⟩:=kR
def awL(p:aX)(bt:Nat):aI [] bt (fA (mz p))=⟨bt,af,.cells (kI (ah,⟨0,0⟩) (f3 ⟨ah,⟨0,0⟩,0,(λ_=>0),⟨ah,0,0⟩⟩ ⟨ah,⟨0,0⟩,0,(λ_=>0),⟨ah,0,0⟩⟩ ⟨ah,⟨0,0⟩,0,(λ_=>0),⟨ah,0,0⟩⟩) (p.i 42) (p.i 49)) 181 (0,0)⟩:=kR
def awM:Sound du gS 32 (XU (fr:=fr)):=by
 intro ak ae bl ch R ms w0 w K hg hl S hc;unfold XU at hc;split at hc
 ·rename_i l u rest PA tg c0 PB tc c1 ci;split at hc
  ·rename_i n0 y0 n1 y1 n2 y2 n3 y3 e0 e1 e2 e3;cases hq:Gi l 0&&bY (ci.length+2) (⟨PA,⟨tg,(0,0)⟩,c0⟩::⟨PB,⟨tc,(0,0)⟩,c1⟩::ci)with
   |false=>rw[hq]at hc;exact hc.elim
   |true=>
    rw[hq]at hc;simp only[bJ]at hq;obtain⟨⟨awN,hn,hk⟩,hK⟩:=hc;have m0:n0=ln l 0:=hn 0 dC;have m1:n1=ln l 1:=hn 1 dC;have m2:n2=ln l 2:=hn 2 dC;have m3:n3=ln l 3:=hn 3 dC;have AZ:∀i,i<4->ei w (Px ae l i) (ln l i) (DB l i) (k4 y0 y1 y2 y3 i):=by
     intro i hi
     match i,hi with
     |0,_=>subst m0;exact Pz hl S e0 (hk 0 dC).1 (hk 0 dC).2
     |1,_=>subst m1;exact Pz hl S e1 (hk 1 dC).1 (hk 1 dC).2
     |2,_=>subst m2;exact Pz hl S e2 (hk 2 dC).1 (hk 2 dC).2
     |3,_=>subst m3;exact Pz hl S e3 (hk 3 dC).1 (hk 3 dC).2
     |i+4,h=>exact absurd h oM
    have cN:(aJ ae [.agg l]).toArray=#[.agg (ma (nP l (k4 y0 y1 y2 y3)) (Px ae l) (ln l) (DB l))]:=by
     simp only[aJ,den,awJ hq.1 (k4 y0 y1 y2 y3) ae]
    rw[cN];refine(awI (nP l (k4 y0 y1 y2 y3)) (Px ae l) (ln l) (DB l) (k4 y0 y1 y2 y3) awN w AZ).mono ?_;rintro v w' ⟨b,bq,bt,xa,xc,B,rfl,hr,T⟩;have S2:=S.beside T (Wr.app (Wr.cons rfl (Wr.cons rfl (Wr.cons rfl Wr.nil))) (Wr.app (hr 0 dC).wr (Wr.app (hr 1 dC).wr (Wr.app (hr 2 dC).wr (Wr.app (hr 3 dC).wr Wr.nil)))))
    let k:LK:=mkK l (k4 y0 y1 y2 y3) xa xc bq tg tc
    let s:ai:=mz (nP l (k4 y0 y1 y2 y3))
    let F:bx fr (bd k s):=⟨ag,0,ag,0,[⟨bq,af,.cells #[.slice ag 0 0,.int .i64 k.most,.int .u64 0] 170 (0,0)⟩],[],[],[],B 0++(B 1++(B 2++(B 3++[]))),[],⟨[],ag,0,0,[],rfl,pF _ _,trivial,rfl⟩,pF 6 64,pF 2 61,.nil,⟨B 0,B 1,B 2,B 3,[],rfl,hr 0 dC,hr 1 dC,hr 2 dC,hr 3 dC,QQ 5⟩⟩
    have qg:ae.length=ci.length+2:=by simpa using hl
    refine⟨_,[b,bt],_,_,?_,by simp[qg],?_,hK _ k F ⟨rfl,rfl,rfl,rfl,rfl,rfl,rfl,rfl,rfl⟩ rfl rfl⟩
    ·have h1:(ae++[b,bt]).getD (ci.length+2) 0=b:=by rw[<-qg];simp[gh]
     simp only[den,aJ,h1]
    ·have h2:(ae++[b,bt]).getD (ci.length+3) 0=bt:=by rw[show ci.length+3=ae.length+1 by omega];simp[gh]
     have e1:aI (ae++[b,bt]) b (fM k (ci.length+3) s)=⟨b,af,.cells (tY (nP l (k4 y0 y1 y2 y3)) xa (ln l) xc ⟨4,(nP l (k4 y0 y1 y2 y3)).i 55,-1,⟨0,0⟩,⟨0,0⟩,ah⟩ bq (f3 ⟨0,ah,λ_=>0⟩ ⟨0,ah,λ_=>0⟩ ⟨0,ah,λ_=>0⟩) bt 0 0 ((nP l (k4 y0 y1 y2 y3)).i 39) ⟨2,4,0⟩ ⟨1,⟨0,0,0,0⟩,⟨0,0,0,0⟩,⟨2,4,0⟩⟩ (λ_=>0)) 131 (0,0)⟩:=by
      rw[OR (a:=b) b h2];exact awK k (nP l (k4 y0 y1 y2 y3)) b bt
     have e2:aI (ae++[b,bt]) bt (fA s)=⟨bt,af,.cells (kI (ah,⟨0,0⟩) (f3 ⟨ah,⟨0,0⟩,0,(λ_=>0),⟨ah,0,0⟩⟩ ⟨ah,⟨0,0⟩,0,(λ_=>0),⟨ah,0,0⟩⟩ ⟨ah,⟨0,0⟩,0,(λ_=>0),⟨ah,0,0⟩⟩) ((nP l (k4 y0 y1 y2 y3)).i 42) ((nP l (k4 y0 y1 y2 y3)).i 49)) 181 (0,0)⟩:=by
      rw[jL (ids':=[]) (yQ s)];exact awL (nP l (k4 y0 y1 y2 y3)) bt
     have e3:(⟨PA,⟨tg,(0,0)⟩,c0⟩::⟨PB,⟨tc,(0,0)⟩,c1⟩::(ci++[fM k (ci.length+3) s,fA s]))=(⟨PA,⟨tg,(0,0)⟩,c0⟩::⟨PB,⟨tc,(0,0)⟩,c1⟩::ci)++[fM k (ci.length+3) s,fA s]:=rfl;rw[e3,fw _ _ _ _ hl,fy _ _ (by rw[hl];exact hq.2)];show St ms w0 ((lits ae ae (⟨PA,⟨tg,(0,0)⟩,c0⟩::⟨PB,⟨tc,(0,0)⟩,c1⟩::ci)++[aI (ae++[b,bt]) b (fM k (ci.length+3) s),aI (ae++[b,bt]) bt (fA s)])++(cA u++((F.B++[])++ax rest R))) w';rw[e1,e2];have hF:F.B=⟨bq,af,.cells #[.slice ag 0 0,.int .i64 ((nP l (k4 y0 y1 y2 y3)).i 48),.int .u64 0] 170 (0,0)⟩::(B 0++(B 1++(B 2++(B 3++[])))):=rfl;rw[hF];refine S2.perm ?_;show lO (_++(_++(cA u++ax rest R))) _;exact dW λf=>by simp only[ee,j9,lQ];omega
  ·exact hc.elim
 ·exact hc.elim
def XV(n:Nat):∀(l:List V)(i:Nat),nth (rk n l) i=iV n (nth l i)
 |[],_=>rfl
 |_::_,0=>rfl
 |_::l,i+1=>XV n l i
def PC{α:Type}(f:α->V):∀(l:List α)(i:Nat)(a:α),l[i]?=aa a->nth (l.map f) i=f a
 |[],_,_,h=>by simp at h
 |x::l,0,a,h=>by simp at h;subst h;rfl
 |x::l,i+1,a,h=>PC f l i a (by simpa using h)
section
variable(n:Nat)(p:Nat->Int)(kn d:Nat->Nat)
abbrev oz:List V:=rk n (Pm p kn d)
def awO{i:Nat}(hi:i<56)(hk:ll i=ah):iN (nth (oz n p kn d) i)=p i:=by
 unfold oz;rw[XV,Pm,PC _ _ i i (by rw[pr hi]),hk];rfl
def afU{j:Nat}(hj:j<4):nth (oz n p kn d) (j+5)=.sl (j+n) 0 (kn j) (kn j+d j):=by
 unfold oz;rw[XV,Pm,PC _ _ (j+5) (j+5) (by rw[pr oM])];have hk:ll (j+5)=af:=by
  match j,hj with
  |0,_=>rfl
  |1,_=>rfl
  |2,_=>rfl
  |3,_=>rfl
  |j+4,h=>exact absurd h oM
 rw[hk,Nat.add_sub_cancel];rfl
def PD{j:Nat}(hj:j<4):ln (oz n p kn d) j=kn j:=by unfold ln;rw[afU _ _ _ _ hj];rfl
def awP{j:Nat}(hj:j<4):DB (oz n p kn d) j=kn j+d j:=by unfold DB;rw[afU _ _ _ _ hj];rfl
end
def awQ(x:Int):0<=bits .and .i64 x 15/\bits .and .i64 x 15<=15:=by
 have:=tq .i64 x 15 16 4 dC dC dC;omega
def awR(x:Int):0<=bits .and .i64 x 31/\bits .and .i64 x 31<=31:=by
 have:=tq .i64 x 31 32 5 dC dC dC;omega
def awS(x:Int):0<=bits .and .i64 x 65535/\bits .and .i64 x 65535<=65535:=by
 have:=tq .i64 x 65535 65536 16 dC dC dC;omega
def XW(x:Int):qV (bits .and .i64 x 14)=af:=by
 rw[ar0];simp only[qV,kV,bJ,decide_eq_true_eq,beq_iff_eq];omega
def one_mod(a:Int){m:Int}(h:0<m)(h2:m<=1000000):i64.wrap (1+eD a m)=1+eD a m:=by
 have:=Kf a h h2;exact lg oM
def Dz.perm{q:Nat->Int}{o1 o2 o3:Int}(h:Dz q o1 o2 o3):(o1=1/\o2=2/\o3=3)\/(o1=1/\o2=3/\o3=2)\/(o1=2/\o2=1/\o3=3)\/(o1=2/\o2=3/\o3=1)\/(o1=3/\o2=1/\o3=2)\/(o1=3/\o2=2/\o3=1):=by
 rcases h with⟨_,⟨_,a,b,c⟩|⟨_,a,b,c⟩⟩|⟨_,⟨_,a,b,c⟩|⟨_,a,b,c⟩⟩|⟨_,⟨_,a,b,c⟩|⟨_,a,b,c⟩⟩<;>subst a b c<;>simp
def awT{q:Nat->Int}{kn:Nat->Nat}(hp:(q 1=1/\q 2=2/\q 3=3)\/(q 1=1/\q 2=3/\q 3=2)\/(q 1=2/\q 2=1/\q 3=3)\/(q 1=2/\q 2=3/\q 3=1)\/(q 1=3/\q 2=1/\q 3=2)\/(q 1=3/\q 2=2/\q 3=1))
 (h0:q 0=0/\q 4=4/\q 9=1/\q 13=0/\q 50=0) (hk:∀j,j<4->1<=kn j/\kn j<=64) (hr:qV (q 10)=af/\qV (q 11)=af/\qV (q 12)=af) (ht:∀i,14<=i->i<=33->0<=q i/\q i<=15) (hg:∀i,34<=i->i<=38->0<=q i/\q i<=31)
 (hm:∀i,39<=i->i<=41->0<=q i/\q i<=4) (hs:∀i,42<=i->i<=46->1<=q i/\q i<=1000) (hb:0<=q 47/\q 47<=1000) (hq:∀i,48<=i->i<=49->1<=q i/\q i<=3) (hl:∀i,51<=i->i<=53->0<=q i/\q i<=1000) (ha:1<=q 54/\q 54<=1000) (he:0<=q 55/\q 55<=65535):
 og q kn=0/\∀ks,fL ⟨q,ks⟩:=by
 obtain⟨z0,z4,z9,z13,z50⟩:=h0;have wY:∀{lo hi n:Int},lo<=n/\n<=hi->kV lo hi n=af:=λh=>by simp[kV,h.1,h.2]
 have awU:IT q=af:=by
  rcases hp with⟨a,b,c⟩|⟨a,b,c⟩|⟨a,b,c⟩|⟨a,b,c⟩|⟨a,b,c⟩|⟨a,b,c⟩<;>simp[IT,su,z0,z4,a,b,c]
 have AZ:(AS kn&&u_ (kn 3))=af:=by
  have:=hk 0 dC;have:=hk 1 dC;have:=hk 2 dC;have:=hk 3 dC
  simp only[AS,u_,bJ,decide_eq_true_eq];omega
 have awV:(q 9==1&&(q 13==0&&CO q))=af:=by simp[CO,z9,z13,hr]
 have awW:IU q=af:=by
  simp only[IU,allI,bJ];refine⟨?_,?_,?_,?_,?_⟩<;>refine⟨?_,?_,?_,?_,trivial⟩<;>exact wY (ht _ dC dC)
 have J8:allI 0 31 [q 34,q 35,q 36,q 37,q 38]=af:=by
  simp only[allI,bJ];refine⟨?_,?_,?_,?_,?_,trivial⟩<;>exact wY (hg _ dC dC)
 have hmo:allI 0 4 [q 39,q 40,q 41]=af:=by
  simp only[allI,bJ];refine⟨?_,?_,?_,trivial⟩<;>exact wY (hm _ dC dC)
 have hti:allI 1 1000 [q 42,q 43,q 44,q 45]=af:=by
  simp only[allI,bJ];refine⟨?_,?_,?_,?_,trivial⟩<;>exact wY (hs _ dC dC)
 have fR:(kV 1 1000 (q 46)&&kV 0 1000 (q 47))=af:=by rw[wY (hs 46 dC dC),wY hb];rfl
 have Cm:allI 1 3 [q 48,q 49]=af:=by
  simp only[allI,bJ];refine⟨?_,?_,trivial⟩<;>exact wY (hq _ dC dC)
 have Xy:(q 50==0&&(allI 0 1000 [q 51,q 52,q 53]&&kV 1 1000 (q 54)))=af:=by
  rw[z50,wY ha];simp only[allI,bJ];refine⟨dC,⟨?_,?_,?_,trivial⟩,trivial⟩<;>exact wY (hl _ dC dC)
 refine⟨?_,λks=>?_⟩
 ·unfold og;rw[awU,AZ,awV,awW,J8,hmo,hti,fR,Cm,Xy,wY he];rfl
 ·refine⟨z0,z4,hp,hm 39 dC dC,hm 40 dC dC,hm 41 dC dC,hs 42 dC dC,hs 43 dC dC,hs 44 dC dC,hs 45 dC dC,hs 46 dC dC,hb,hq 48 dC dC,hq 49 dC dC,?_,ha,he⟩;intro c hc;show 0<=q (50+c)/\q (50+c)<=1000
  match c,hc with
  |0,_=>rw[z50];decide
  |1,_=>exact hl 51 dC dC
  |2,_=>exact hl 52 dC dC
  |3,_=>exact hl 53 dC dC
  |c+4,h=>exact absurd h oM
structure DC(p:Nat->Int)(o1 o2 o3:Int)(q:Nat->Int):Prop where
 lo:∀i,i<=4\/(9<=i/\i<=41)\/(47<=i/\i<=55)->p i=sW o1 o2 o3 q i
 ti:∀i,42<=i->i<=46->1<=p i/\p i<=1000
def awX{o1 o2 o3:Int}{q:Nat->Int}{i:Nat}(h1:42<=i)(h2:i<=46):1<=sW o1 o2 o3 q i/\sW o1 o2 o3 q i<=1000:=by
 have:sW o1 o2 o3 q i=i64.wrap (1+eD (q i) 1000):=by
  have:i=42\/i=43\/i=44\/i=45\/i=46:=oM;rcases this with rfl|rfl|rfl|rfl|rfl<;>rfl
 rw[this,one_mod _ dC dC];have:=Kf (q i) (m:=1000) dC dC;omega
def DC.ok{p:Nat->Int}{o1 o2 o3:Int}{q:Nat->Int}(h:DC p o1 o2 o3 q)(ho:Dz q o1 o2 o3){kn:Nat->Nat}(hk:∀j,j<4->1<=kn j/\kn j<=64):og p kn=0/\∀ks,fL ⟨p,ks⟩:=by
 have g:=λi hi=>h.lo i hi;have md:=λ(i:Nat)(m:Int)(h1:0<m)(h2:m<=1000000)=>Kf (q i) h1 h2;refine awT ?_ ⟨g 0 dC,g 4 dC,g 9 dC,g 13 dC,g 50 dC⟩ hk ⟨?_,?_,?_⟩ ?_ ?_ ?_ h.ti ?_ ?_ ?_ ?_ ?_
 ·rw[g 1 dC,g 2 dC,g 3 dC];exact ho.perm
 ·rw[g 10 dC];exact XW _
 ·rw[g 11 dC];exact XW _
 ·rw[g 12 dC];exact XW _
 ·intro i h1 h2;rw[g i oM];have:sW o1 o2 o3 q i=bits .and .i64 (q i) 15:=by
   unfold sW;have e1:ck i 13=ah:=by cases hb:ck i 13 with|false=>rfl|true=>exact absurd (eU hb) oM
   have e2:ck i 33=af:=w8 h2;rw[e1,e2];rfl
  rw[this];exact awQ _
 ·intro i h1 h2;rw[g i oM];have:sW o1 o2 o3 q i=bits .and .i64 (q i) 31:=by
   have:i=34\/i=35\/i=36\/i=37\/i=38:=oM;rcases this with rfl|rfl|rfl|rfl|rfl<;>rfl
  rw[this];exact awR _
 ·intro i h1 h2;rw[g i oM];have:sW o1 o2 o3 q i=eD (q i) 5:=by
   have:i=39\/i=40\/i=41:=oM;rcases this with rfl|rfl|rfl<;>rfl
  rw[this];have:=md i 5 dC dC;omega
 ·rw[g 47 dC];have:=md 47 1001 dC dC;show 0<=eD (q 47) 1001/\eD (q 47) 1001<=1000;omega
 ·intro i h1 h2;rw[g i oM];have:sW o1 o2 o3 q i=i64.wrap (1+eD (q i) 3):=by
   have:i=48\/i=49:=oM;rcases this with rfl|rfl<;>rfl
  rw[this,one_mod _ dC dC];have:=md i 3 dC dC;omega
 ·intro i h1 h2;rw[g i oM];have:sW o1 o2 o3 q i=eD (q i) 1001:=by
   have:i=51\/i=52\/i=53:=oM;rcases this with rfl|rfl|rfl<;>rfl
  rw[this];have:=md i 1001 dC dC;omega
 ·rw[g 54 dC];show 1<=i64.wrap (1+eD (q 54) 1000)/\i64.wrap (1+eD (q 54) 1000)<=1000;rw[one_mod _ dC dC];have:=md 54 1000 dC dC;omega
 ·rw[g 55 dC];exact awS _
def PE{i:Nat}(h:i<5\/8<i):ll i=ah:=by
 unfold ll;cases h1:ck 5 i with
 |false=>rfl
 |true=>
  cases h2:ck i 8 with
  |false=>rfl
  |true=>have:=eU h1;have:=eU h2;omega
def Made.I{x:my}{p:Nat->Int}{n:Nat->Nat}(h:Made x p n):DC p (p 1) (p 2) (p 3) x.q:=
 ⟨λi hi=>h.p i oM (PE oM),λi h1 h2=>by rw[h.p i oM (PE oM)];exact awX h1 h2⟩
def DC.at{p p':Nat->Int}{o1 o2 o3:Int}{q:Nat->Int}(h:DC p o1 o2 o3 q)(e:∀i,i<56->ll i=ah->p' i=p i):DC p' o1 o2 o3 q:=
 ⟨λi hi=>by rw[e i oM (PE oM)];exact h.lo i hi,λi h1 h2=>by rw[e i oM (PE oM)];exact h.ti i h1 h2⟩
def afV{m:Nat}{p:Nat->Int}{n d:Nat->Nat}{o1 o2 o3:Int}{q:Nat->Int}(h:DC p o1 o2 o3 q)(ho:Dz q o1 o2 o3)(hn:∀j,j<4->1<=n j/\n j<=64):Py (oz m p n d) n/\∀f,fL (nP (oz m p n d) f):=by
 have hb:∀j,j<4->1<=ln (oz m p n d) j/\ln (oz m p n d) j<=64:=λj hj=>by rw[PD _ _ _ _ hj];exact hn j hj
 have h1:=(h.at (p':=λi=>iN (nth (oz m p n d) i)) (λi h1 h2=>awO m p n d h1 h2)).ok ho hb;refine⟨⟨h1.1,λj hj=>(PD _ _ _ _ hj).symm,λj hj=>⟨(hb j hj).2,?_⟩⟩,λf=>h1.2 _⟩;rw[PD _ _ _ _ hj,awP _ _ _ _ hj];omega
def awY{l:List V}{f:Nat->az}{tg tc:Nat}{p:aX}{k:LK}(hN:XT l f tg tc p k)(h:fL (nP l f))(hk:∀j,j<4->1<=ln l j/\ln l j<=64):ft k (mz p):=by
 obtain⟨rfl,h1,h2,h3,h4,h5,h6⟩:=hN;exact⟨Sd.Inv.new h,Sd.Ext.new,λi hi=>by rw[h1];exact hk i hi,λi hi=>by rw[h1,h2];rfl,rfl,rfl⟩
def f2(a b:Int):az:=λj=>match j with|0=>a|_=>b
def fO(t:aP):VB:=⟨ah,t,[.cu .u32 64 c9]⟩
def Kk(t:aP):VB:=⟨ah,t,[.bool ah,.bool ah,.bool ah,.bool ah,.bool ah,.bool ah,.bool ah,.bool ah,.bool ah,.bool ah,.bool af,.bool af]⟩
def rdA(x:my)(u:an):Prop:=uk x u 0/\uk x u 1/\uk x u 2/\uk x u 3
def afW(x:my)(u:an):Nat->az:=k4 (mw (x.kn 0) (dP u (x.ka 0))) (mw (x.kn 1) (dP u (x.ka 1))) (mw (x.kn 2) (dP u (x.ka 2))) (mw (x.kn 3) (dP u (x.ka 3)))
def n4(n:Nat->Nat):Nat->Nat:=k4 (n 0) (n 1) (n 2) (n 3)
section
variable(C:Sd.aM)(tg tc:aP)(u:an)(K:VK (LG fr))
end
def XY(P:aL):(bA->V)->Op->List VB->List (LG fr)->VK (LG fr)->Prop:=λe op bl ch K=>match op with
 |.call c=>(match c.callee,c.args.toList,c.argTypes.toList with
  |.builtin .append,[s,xs],[t,tx]=>(match P.underlying t,P.underlying tx with
   |some (.slice 5),aa (.slice _)=>(match e s,e xs,ch with
    |.sl i 0 0 0,.raw (.slice a m c),.br u::.hJ l::rest=>(jx u a m c (dP u a)/\m<=1000000)/\∀b:jz,b.n=m->b.f=dP u a->K (.raw (.slice b.x b.n b.c)) bl (.br u::.hJ (l++[b])::rest)
    |_,_,_=>False)
   |_,_=>False)
  |_,_,_=>False)
 |_=>False
def afX(l:List jz)(b:jz):ni (l++[b])=ni l++b.B:=by
 induction l with
 |nil=>simp[ni]
 |cons a l ih=>simp only[fe,ni,ih,bZ]
def awZ{gl:Nat->Option Nat}:iF (G:=LG fr) du gl (XY du):=by
 intro e op ae bl ch R ms w0 w K ρ o hg hl S bo ho h;unfold XY at h;split at h
 ·rename_i c;split at h
  ·rename_i s xs t tx fc cN dX;split at h
   ·rename_i T ht gj;split at h
    ·rename_i i a m c' u l rest gV fV;obtain⟨⟨hk,hm⟩,h1⟩:=h;have uO:∀y∈cA u,y∈lits ae ae bl++ax (.br u::.hJ l::rest) R:=λy hy=>by
      refine oF _ ?_;show y∈cA u++ax (.hJ l::rest) R;exact kB _ hy
     have fh:=Ed (P:=du) (⟨hm,W5 S uO hk⟩:ei w a m c' (dP u a)) gj;obtain⟨mJ,ar,iO⟩:=c;simp only at fc cN dX;have e2:ar=#[s,xs]:=by rw[<-cN]
     have e3:iO=#[t,tx]:=by rw[<-dX]
     subst fc e2 e3;have kF:ρ s=.slice (aa ⟨ae.getD i 0,0,ag⟩) 0 0:=by rw[bo,gV];simp only[den]
     have oT:ρ xs=.slice a m c':=by rw[bo,fV];simp only[den]
     by_cases kE:m=0
     ·subst kE;refine⟨_,[],bl,_,w,.inl ?_,by simpa using hl,?_,h1 ⟨0,dP u a,aa ⟨ae.getD i 0,0,ag⟩,0,[],dC,.inl ⟨rfl,cW _,(λe=>nomatch e),rfl⟩⟩ rfl rfl⟩
      ·rw[jU (P:=du) (ρ:=ρ) (o:=o) ho kF oT (W6 (g:=dP u a) fh ht ⟨ae.getD i 0,0,ag⟩)];simp only[den,cy]
      ·have e4:ax (LG.br u::.hJ (l++[⟨0,dP u a,aa ⟨ae.getD i 0,0,ag⟩,0,[],dC,.inl ⟨rfl,cW _,(λe=>nomatch e),rfl⟩⟩])::rest) R=ax (LG.br (fr:=fr) u::.hJ l::rest) R:=by
        show cA u++(ni _++ax rest R)=cA u++(ni l++ax rest R);rw[afX,cy]
       rw[e4];simpa using S
     ·obtain⟨c2,w2,b_,cz,hle,vB⟩:=OX (g:=dP u a) (x:=a) (ty:=o.type) (t:=t) fh ht oM oM ⟨ae.getD i 0,0,ag⟩;refine⟨_,[],bl,_,w2,.inl ?_,by simpa using hl,?_,h1 ⟨m,dP u a,aa ⟨w.heap.size,0,ag⟩,c2,[⟨w.heap.size,af,.cells (bM m (dP u a) c2) 5 (0,0)⟩],hm,.inr ⟨hle,.inr ⟨_,rfl,rfl⟩⟩⟩ rfl rfl⟩
      ·rw[jU (P:=du) (ρ:=ρ) (o:=o) ho kF oT b_];simp only[den]
      ·rw[cy];refine(S.new cz (cW _) vB).perm ?_;show lO (_::(lits ae ae bl++(cA u++(ni l++ax rest R)))) (lits ae ae bl++(cA u++(ni (l++[_])++ax rest R)));rw[afX];exact dW λf=>by simp only[ee,j9,lQ];omega
    ·exact h.elim
   ·exact h.elim
  ·exact h.elim
 ·exact h.elim
def afY(e:bA->V)(op:Op):Bool:=match op with
 |.call c=>(match c.args.toList with
  |s::_=>(match e s with|.sl _ 0 0 0=>af|_=>ah)
  |_=>ah)
 |_=>ah
def afZ(op:Op):Bool:=match op with|.buildSlice _ _ _=>af|_=>ah
def Gk:(bA->V)->Op->List VB->List (LG fr)->VK (LG fr)->Prop:=λe op bl ch K=>cond (afZ op) (Xf du e op bl ch K) (cond (afY e op) (XY du e op bl ch K) (JY du e op bl ch K))
def Kl{gl:Nat->Option Nat}:iF du gl (Gk (fr:=fr)):=Co (λ_ op=>afZ op) au6 (Co afY awZ Xi)
def vE{G:Type}[Bl G](P:aL)(gl:Nat->Option Nat)(L:List (bT G))(h:(bA->V)->Op->List VB->List G->VK G->Prop)(hok:iF P gl h)(lp:Nat->List V->Option (Lp G)):Ctx G:=⟨P,qM L,gl,tO L,h,hok,lp,xM,Af⟩
structure eT where
 kind:Int
 src:Int
 x:Option aF
 n:Nat
 c:Nat
 s:Sd.fK
 bad:Bool
def evD(e:eT):List V:=dH e.kind e.src (.slice e.x e.n e.c) e.s e.bad
def kz(es:Nat->eT)(j:Nat):List aj:=ao [] (evD (es j))
def nH(ty:BT)(n:Nat)(es:Nat->eT)(aw a9:List aj):VB:=⟨ah,ty,[.rest aw,.gm 10 n (kz es),.rest a9]⟩
def aw0(es:Nat->eT)(j:Nat):(kz es j).length=10:=rfl
def eT.cp(e:eT)(b:jz):eT:=⟨e.kind,e.src,b.x,b.n,b.c,e.s,e.bad⟩
structure DD(u:an)(es dN:Nat->eT)(N:Nat)(bs:List jz):Prop where
 len:bs.length=N
 each:∀j,j<N->∃b,bs[j]?=aa b/\dN j=(es j).cp b/\b.n=cY 120 (es j).n/\b.f=dP u (es j).x
def Gm:dm (LG fr):=λak bl ch K=>match ak,ch with
 |[.dB i o n c a],.br u::rest=>(match bl[i]?with
  |some ⟨ah,ty,[.rest aw,.gm 10 n' g,.rest a9]⟩=>cond (bY bl.length bl) ((∃es:Nat->eT,(g=kz es/\n'=n/\(∀j,j<n->o=aw.length)/\n<=c/\(∃tg,bl[0]?=aa (fO tg))/\∀j,j<n->jx u (es j).x (es j).n (es j).c (dP u (es j).x))/\
   ∀(dN:Nat->eT)(bs:List jz)(x:Option aF)(c' sV:Nat)(us:List aj),DD u es dN (cY 60 n) bs->K (.dB bl.length 0 (cY 60 n) c' x) (bl++[jf sV 10 (cY 60 n) (kz dN) us]) (.br u::.hJ bs::rest))) False
  |_=>False)
 |_,_=>False
end
section
def mU(w:Nat)(s:Int):List V:=(bg w).map λj=>.int .u8 (bO w (u64.wrap s) j)
def fkX(n m c:Nat)(ac cells:List V)(X:Nat->List aj->Prop):Prop:=
 (n<=c/\cM ac=c*1)/\(∀(c':Nat)(u:List aj),n+m<=c'->cM (cells++[.rest u])=c'*1->X c' u)/\(∀(c':Nat)(u:List aj),n+m<=c'->cM (cells++[.rest u])=c'*1->X c' u)
def Gn(F:Prop)(E:Nat->Nat->List V->List aj->Prop):List (Int×Int×Int×Nat)->Nat->Nat->List V->List V->List aj->Prop
 |[],n,c,ac,cells,u=>E n c cells u
 |(s,lo,hi,w)::fs,n,c,ac,cells,u=>cond (decide (s<lo)) F (cond (decide (s>hi)) F (cond (il (u64.wrap s) (dS (2^(8*w)))!=0) F
  (fkX n w c ac (cells++mU w s) λc' u'=>Gn F E fs (n+w) c' (cells++mU w s++[.rest u']) (cells++mU w s) u')))
def rv(k a b c d e:Int)(nc:Nat->Int):V:=.agg [.int .i64 k,.int .i64 a,.int .i64 b,.int .i64 c,.int .i64 d,.int .i64 e,.cu .u8 8 nc]
def zB(x:V)(K:VK Empty):Prop:=bz (gM du (λ_=>ag) ([]:List (bT Empty)) (EN du) HO) 60 165 [x] [] [] (bG 0 K)
def zC(k:Int)(fs:List (Int×Int×Int×Nat))(K:VK Empty):Prop:=Gn (K (.aD [.raw (.slice ag 0 0),.int .i64 1]) [] []) (λn c cells u=>K (.aD [.sl 0 0 n c,.int .i64 0]) [⟨af,⟨5,(0,0)⟩,cells++[.rest u]⟩] []) fs 1 1 [.int .u8 k] [.int .u8 k] []
def aw1(s:Int)(K:VK Empty):zB (rv 131 s 0 0 0 0 λ_=>0) K=zC 131 [(s,0,4294967295,4)] K:=kR
def aw2(a b c:Int)(K:VK Empty):zB (rv 130 0 a b c 0 λ_=>0) K=zC 130 [(a,0,3,1),(b,0,4,1),(c,0,65535,2)] K:=kR
def aw3(s c:Int)(K:VK Empty):zB (rv 132 s 0 0 0 c λ_=>0) K=zC 132 [(s,0,4294967295,4),(c,0,255,1)] K:=kR
def aw4(e:Int)(K:VK Empty):zB (rv 133 0 0 0 e 0 λ_=>0) K=zC 133 [(e,0,65535,2)] K:=kR
def aw5(w e:Int)(K:VK Empty):zB (rv 134 0 0 w e 0 λ_=>0) K=zC 134 [(w,0,4,1),(e,0,65535,2)] K:=kR
def aw6(w e:Int)(K:VK Empty):zB (rv 135 0 0 w e 0 λ_=>0) K=zC 135 [(w,0,4,1),(e,0,65535,2)] K:=kR
def aw7(w c:Int)(K:VK Empty):zB (rv 136 0 0 w 0 c λ_=>0) K=zC 136 [(w,0,4,1),(c,0,255,1)] K:=kR
def aw8(a b:List V):cM (a++b)=cM a+cM b:=by
 induction a with
 |nil=>simp[cM]
 |cons v a ih=>simp only[fe,cM,ih];omega
def aw9(w:Nat)(s:Int):cM (mU w s)=w:=by
 have h:∀l:List Nat,cM (l.map λj=>V.int .u8 (bO w (u64.wrap s) j))=l.length:=by
  intro l;induction l with
  |nil=>rfl
  |cons j l ih=>simp only[gx,cM,ih,jv];show 1+_=_;omega
 unfold mU;rw[h,P_]
def af0{F:Prop}{E:Nat->Nat->List V->List aj->Prop}:∀(fs:List (Int×Int×Int×Nat))(n c:Nat)(ac cells:List V)(u:List aj),(∀f∈fs,f.2.1<=f.1/\f.1<=f.2.2.1/\0<=f.1/\f.1<18446744073709551616/\f.1<dS (2^(8*f.2.2.2)))->n<=c->cM ac=c->n=cM cells->cM (cells++[.rest u])=c->
 (∀c' u',n+(fs.map λf=>f.2.2.2).sum<=c'->cM (cells++(fs.map λf=>mU f.2.2.2 f.1).flatten++[.rest u'])=c'->E (n+(fs.map λf=>f.2.2.2).sum) c' (cells++(fs.map λf=>mU f.2.2.2 f.1).flatten) u')->Gn F E fs n c ac cells u
 |[],n,c,ac,cells,u,_,h1,h2,h3,h4,hE=>by
  have:=hE c u (by simpa using h1) (by simpa using h4);simpa[Gn]using this
 |(s,lo,hi,w)::fs,n,c,ac,cells,u,hf,h1,h2,h3,h4,hE=>by
  obtain⟨f1,f2,f3,f5,f4⟩:=hf _ (xk ..);simp only at f1 f2 f3 f4 f5;have step:∀(c':Nat)(u':List aj),n+w<=c'->cM (cells++mU w s++[.rest u'])=c'*1->Gn F E fs (n+w) c' (cells++mU w s++[.rest u']) (cells++mU w s) u':=by
   intro c' u' g1 g2;rw[Nat.mul_one]at g2;refine af0 fs (n+w) c' _ _ u' (λf hm=>hf f (qA _ hm)) g1 g2 ?_ g2 ?_
   ·rw[aw8,aw9,h3]
   ·intro c2 u2 g3 g4;have:=hE c2 u2 (by simpa[ux]using g3) (by simpa[bZ]using g4);simpa[ux,bZ]using this
  unfold Gn;refine aN (λh=>absurd (by simpa using h:s<lo) oM) λ_=>aN (λh=>absurd (by simpa using h:hi<s) oM) λ_=>aN (λh=>?_) λ_=>⟨⟨h1,by rw[h2,Nat.mul_one]⟩,step,step⟩;exfalso;have e:il (u64.wrap s) (dS (2^(8*w)))=0:=by
   have hd:∀d:Int,0<=d->s<d->il s d=0:=λd h0 h=>by rw[Int.fdiv_eq_ediv_of_nonneg _ h0];exact Int.ediv_eq_zero_of_lt f3 h
   rw[BD,KZ f3 oM];exact hd _ (BC _) f4
  rw[e]at h;simp at h
def aw_{k:Int}{fs:List (Int×Int×Int×Nat)}{K:VK Empty}(hf:∀f∈fs,f.2.1<=f.1/\f.1<=f.2.2.1/\0<=f.1/\f.1<18446744073709551616/\f.1<dS (2^(8*f.2.2.2)))
 (hK:∀c' u',1+(fs.map λf=>f.2.2.2).sum<=c'->cM ([.int .u8 k]++(fs.map λf=>mU f.2.2.2 f.1).flatten++[.rest u'])=c'->K (.aD [.sl 0 0 (1+(fs.map λf=>f.2.2.2).sum) c',.int .i64 0]) [⟨af,⟨5,(0,0)⟩,([.int .u8 k]++(fs.map λf=>mU f.2.2.2 f.1).flatten)++[.rest u']⟩] []):zC k fs K:=
 af0 fs 1 1 _ _ [] hf (cW _) rfl rfl rfl hK
def DE{x:V}{k:Int}{fs:List (Int×Int×Int×Nat)}{n:Nat}(e:∀K,zB x K=zC k fs K)(hf:∀f∈fs,f.2.1<=f.1/\f.1<=f.2.2.1/\0<=f.1/\f.1<18446744073709551616/\f.1<dS (2^(8*f.2.2.2)))(hn:1+(fs.map λf=>f.2.2.2).sum=n){g:Nat->Int}
 (hg:∀j,j<n->∀u:List aj,(ao [] (([.int .u8 k]++(fs.map λf=>mU f.2.2.2 f.1).flatten)++[.rest u]))[j]?=aa (.int .u8 (g j))) (hw:bF 0 (([.int .u8 k]++(fs.map λf=>mU f.2.2.2 f.1).flatten))=af) (w:an):
 ba du 165 (aJ [] [x]).toArray w λv w1=>∃b c1,v=.tuple #[.slice (aa ⟨b,0,ag⟩) n c1,.int .i64 0]/\n<=c1/\w.heap.size<=b/\cJ w1 b 0 n g/\Ch [] w w1:=by
 have h:zB x λv b _=>∃c u,v=.aD [.sl 0 0 n c,.int .i64 0]/\b=[⟨af,⟨5,(0,0)⟩,([.int .u8 k]++(fs.map λf=>mU f.2.2.2 f.1).flatten)++[.rest u]⟩]/\n<=c:=by
  rw[e];exact aw_ hf λc u h1 h2=>⟨c,u,by rw[hn],rfl,oM⟩
 refine(eO (aK.nil (G:=Empty) (P:=du) (gl:=λ_=>ag)).T (aK.nil (G:=Empty) (P:=du) (gl:=λ_=>ag)).Q 60 (C:=gM du (λ_=>ag) ([]:List (bT Empty)) (EN du) HO) (ae:=[]) (bl:=[]) (ch:=[]) (R:=[]) Gl.no rfl (St.nil [] w) h).mono ?_;rintro v w' ⟨y,aq,b9,ce,rfl,h1,S',hK⟩;obtain⟨v2,cj,ci,e2,cK,S2,c,u,rfl,rfl,hc⟩:=ig (n0:=0) h1 sP S' hK
 match cj,cK,S2,e2 with
 |[b],_,S2,e2=>
  have S3:St [] w ([aI [b] b ⟨af,⟨5,(0,0)⟩,([.int .u8 k]++(fs.map λf=>mU f.2.2.2 f.1).flatten)++[.rest u]⟩]) w':=match ce,S2 with
   |[],S2=>S2
   |e::_,_=>nomatch e
  refine⟨b,c,e2,hc,(S3.own 0 _ rfl rfl).resolve_left sP,?_,S3.ch⟩;intro j hj;have aV:w'.heap[b]?=aa (.cells (ao [b] (([.int .u8 k]++(fs.map λf=>mU f.2.2.2 f.1).flatten)++[.rest u])).toArray 5 (0,0)):=S3.at_ 0 _ rfl;have hd:=hg j hj u;have e3:ao [b] (([.int .u8 k]++(fs.map λf=>mU f.2.2.2 f.1).flatten)++[.rest u])=ao [] (([.int .u8 k]++(fs.map λf=>mU f.2.2.2 f.1).flatten)++[.rest u]):=by
   have gen:∀L:List V,bF 0 L=af->ao [b] (L++[.rest u])=ao [] (L++[.rest u]):=λL hL=>by
    rw[kg,kg];have q:=jI (ae:=[]) (aq:=[b]) L hL;simp only[fu]at q;rw[q];rfl
   exact gen _ hw
  rw[d_,cell_of aV,e3];simpa using hd
 |[],h,_,_=>simp at h
 |_::_::_,h,_,_=>simp at h
def axa(wh co:Int)(qm:0<=wh/\wh<=4)(DF:0<=co/\co<=255)(w:an):ba du 165 (aJ [] [rv 136 0 0 wh 0 co λ_=>0]).toArray w λv w1=>∃b c1,v=.tuple #[.slice (aa ⟨b,0,ag⟩) 3 c1,.int .i64 0]/\3<=c1/\w.heap.size<=b/\cJ w1 b 0 3 (gK [136,bO 1 (u64.wrap wh) 0,bO 1 (u64.wrap co) 0])/\Ch [] w w1:=
 DE (n:=3) (λK=>aw7 wh co K) (λf hm=>by
  rcases cG.1 hm with rfl|hm
  ·exact⟨qm.1,qm.2,qm.1,oM,by show wh<256;omega⟩
  rcases cG.1 hm with rfl|hm
  ·exact⟨DF.1,DF.2,DF.1,oM,by show co<256;omega⟩
  cases hm) rfl (λj hj u=>by
  rcases(by omega:j=0\/j=1\/j=2)with rfl|rfl|rfl<;>rfl) rfl w
def axb(sq:Int)(DG:0<=sq/\sq<=4294967295)(w:an):ba du 165 (aJ [] [rv 131 sq 0 0 0 0 λ_=>0]).toArray w λv w1=>∃b c1,v=.tuple #[.slice (aa ⟨b,0,ag⟩) 5 c1,.int .i64 0]/\5<=c1/\w.heap.size<=b/\cJ w1 b 0 5 (gK [131,bO 4 (u64.wrap sq) 0,bO 4 (u64.wrap sq) 1,bO 4 (u64.wrap sq) 2,bO 4 (u64.wrap sq) 3])/\Ch [] w w1:=
 DE (n:=5) (λK=>aw1 sq K) (λf hm=>by
  rcases cG.1 hm with rfl|hm
  ·exact⟨DG.1,DG.2,DG.1,oM,by show sq<4294967296;omega⟩
  cases hm) rfl (λj hj u=>by
  rcases(by omega:j=0\/j=1\/j=2\/j=3\/j=4)with rfl|rfl|rfl|rfl|rfl<;>rfl) rfl w
def axc(ro wh ep:Int)(Cm:0<=ro/\ro<=3)(qm:0<=wh/\wh<=4)(qn:0<=ep/\ep<=65535)(w:an):ba du 165 (aJ [] [rv 130 0 ro wh ep 0 λ_=>0]).toArray w λv w1=>∃b c1,v=.tuple #[.slice (aa ⟨b,0,ag⟩) 5 c1,.int .i64 0]/\5<=c1/\w.heap.size<=b/\cJ w1 b 0 5 (gK [130,bO 1 (u64.wrap ro) 0,bO 1 (u64.wrap wh) 0,bO 2 (u64.wrap ep) 0,bO 2 (u64.wrap ep) 1])/\Ch [] w w1:=
 DE (n:=5) (λK=>aw2 ro wh ep K) (λf hm=>by
  rcases cG.1 hm with rfl|hm
  ·exact⟨Cm.1,Cm.2,Cm.1,oM,by show ro<256;omega⟩
  rcases cG.1 hm with rfl|hm
  ·exact⟨qm.1,qm.2,qm.1,oM,by show wh<256;omega⟩
  rcases cG.1 hm with rfl|hm
  ·exact⟨qn.1,qn.2,qn.1,oM,by show ep<65536;omega⟩
  cases hm) rfl (λj hj u=>by
  rcases(by omega:j=0\/j=1\/j=2\/j=3\/j=4)with rfl|rfl|rfl|rfl|rfl<;>rfl) rfl w
def axd(sq co:Int)(DG:0<=sq/\sq<=4294967295)(DF:0<=co/\co<=255)(w:an):ba du 165 (aJ [] [rv 132 sq 0 0 0 co λ_=>0]).toArray w λv w1=>∃b c1,v=.tuple #[.slice (aa ⟨b,0,ag⟩) 6 c1,.int .i64 0]/\6<=c1/\w.heap.size<=b/\cJ w1 b 0 6 (gK [132,bO 4 (u64.wrap sq) 0,bO 4 (u64.wrap sq) 1,bO 4 (u64.wrap sq) 2,bO 4 (u64.wrap sq) 3,bO 1 (u64.wrap co) 0])/\Ch [] w w1:=
 DE (n:=6) (λK=>aw3 sq co K) (λf hm=>by
  rcases cG.1 hm with rfl|hm
  ·exact⟨DG.1,DG.2,DG.1,oM,by show sq<4294967296;omega⟩
  rcases cG.1 hm with rfl|hm
  ·exact⟨DF.1,DF.2,DF.1,oM,by show co<256;omega⟩
  cases hm) rfl (λj hj u=>by
  rcases(by omega:j=0\/j=1\/j=2\/j=3\/j=4\/j=5)with rfl|rfl|rfl|rfl|rfl|rfl<;>rfl) rfl w
def axe(ep:Int)(qn:0<=ep/\ep<=65535)(w:an):ba du 165 (aJ [] [rv 133 0 0 0 ep 0 λ_=>0]).toArray w λv w1=>∃b c1,v=.tuple #[.slice (aa ⟨b,0,ag⟩) 3 c1,.int .i64 0]/\3<=c1/\w.heap.size<=b/\cJ w1 b 0 3 (gK [133,bO 2 (u64.wrap ep) 0,bO 2 (u64.wrap ep) 1])/\Ch [] w w1:=
 DE (n:=3) (λK=>aw4 ep K) (λf hm=>by
  rcases cG.1 hm with rfl|hm
  ·exact⟨qn.1,qn.2,qn.1,oM,by show ep<65536;omega⟩
  cases hm) rfl (λj hj u=>by
  rcases(by omega:j=0\/j=1\/j=2)with rfl|rfl|rfl<;>rfl) rfl w
def axf(wh ep:Int)(qm:0<=wh/\wh<=4)(qn:0<=ep/\ep<=65535)(w:an):ba du 165 (aJ [] [rv 134 0 0 wh ep 0 λ_=>0]).toArray w λv w1=>∃b c1,v=.tuple #[.slice (aa ⟨b,0,ag⟩) 4 c1,.int .i64 0]/\4<=c1/\w.heap.size<=b/\cJ w1 b 0 4 (gK [134,bO 1 (u64.wrap wh) 0,bO 2 (u64.wrap ep) 0,bO 2 (u64.wrap ep) 1])/\Ch [] w w1:=
 DE (n:=4) (λK=>aw5 wh ep K) (λf hm=>by
  rcases cG.1 hm with rfl|hm
  ·exact⟨qm.1,qm.2,qm.1,oM,by show wh<256;omega⟩
  rcases cG.1 hm with rfl|hm
  ·exact⟨qn.1,qn.2,qn.1,oM,by show ep<65536;omega⟩
  cases hm) rfl (λj hj u=>by
  rcases(by omega:j=0\/j=1\/j=2\/j=3)with rfl|rfl|rfl|rfl<;>rfl) rfl w
def axg(wh ep:Int)(qm:0<=wh/\wh<=4)(qn:0<=ep/\ep<=65535)(w:an):ba du 165 (aJ [] [rv 135 0 0 wh ep 0 λ_=>0]).toArray w λv w1=>∃b c1,v=.tuple #[.slice (aa ⟨b,0,ag⟩) 4 c1,.int .i64 0]/\4<=c1/\w.heap.size<=b/\cJ w1 b 0 4 (gK [135,bO 1 (u64.wrap wh) 0,bO 2 (u64.wrap ep) 0,bO 2 (u64.wrap ep) 1])/\Ch [] w w1:=
 DE (n:=4) (λK=>aw6 wh ep K) (λf hm=>by
  rcases cG.1 hm with rfl|hm
  ·exact⟨qm.1,qm.2,qm.1,oM,by show wh<256;omega⟩
  rcases cG.1 hm with rfl|hm
  ·exact⟨qn.1,qn.2,qn.1,oM,by show ep<65536;omega⟩
  cases hm) rfl (λj hj u=>by
  rcases(by omega:j=0\/j=1\/j=2\/j=3)with rfl|rfl|rfl|rfl<;>rfl) rfl w
def DH(nc:Nat->Int):List V:=[.int .i64 129,.int .i64 0,.int .i64 0,.int .i64 0,.int .i64 0,.int .i64 0,.int .u8 (nc 0),.int .u8 (nc 1),.int .u8 (nc 2),.int .u8 (nc 3),.int .u8 (nc 4),.int .u8 (nc 5),.int .u8 (nc 6),.int .u8 (nc 7)]
def XZ(nc:Nat->Int):VB:=⟨af,⟨232,(0,0)⟩,DH nc⟩
def Bg(j:Nat):List V:=[.int .i64 1,.int .i64 0,.int .i64 255,.fn 247 [] [.ptr j 0],.fn 248 [] [.ptr j 0]]
def axh(u:List aj):VB:=⟨af,⟨305,(0,0)⟩,Bg 2++(Bg 3++(Bg 4++(Bg 5++(Bg 6++(Bg 7++(Bg 8++(Bg 9++[.rest u])))))))⟩
def PF:List VB:=(bg 8).map λj=>⟨af,⟨337,(0,0)⟩,[.ptr 0 (6+j)]⟩
def sY(nc:Nat->Int)(u:List aj):List VB:=XZ nc::axh u::PF
def DJ(n:Nat)(u:List aj)(c:Nat):Prop:=cM (oE (5*n) (V.bool af)++[.rest u])=c*5
def Km(X:Nat->List aj->Prop):Nat->Nat->Nat->List aj->Prop
 |0,_,c,u=>X c u
 |k+1,n,c,u=>(n<=c/\DJ n u c)/\(∀(c':Nat)(u':List aj),n+1<=c'->DJ (n+1) u' c'->Km X k (n+1) c' u')/\(∀(c':Nat)(u':List aj),n+1<=c'->DJ (n+1) u' c'->Km X k (n+1) c' u')
def af1{X:Nat->List aj->Prop}:∀(k n c:Nat)(u:List aj),n<=c->DJ n u c->(∀c u,n+k<=c->DJ (n+k) u c->X c u)->Km X k n c u
 |0,_,c,u,h1,h2,hX=>hX c u h1 h2
 |k+1,n,c,u,h1,h2,hX=>by
  have st:∀(c':Nat)(u':List aj),n+1<=c'->DJ (n+1) u' c'->Km X k (n+1) c' u':=λc' u' a b=>af1 k (n+1) c' u' a b λc u d e=>hX c u oM (by rw[show n+(k+1)=n+1+k by omega];exact e);exact⟨⟨h1,h2⟩,st,st⟩
def Kn(n:Nat)(f:fG)(ak:List V)(bl:List VB)(K:VK Empty):Prop:=bz (gM du (λ_=>ag) ([]:List (bT Empty)) (HP du) MC) n f ak bl [] K
def sZ(k:Nat)(x:Int)(aw a9:List aj):List VB:=[⟨ah,⟨337,(0,0)⟩,[.pe 1 k 0 1 0]⟩,⟨ah,⟨232,(0,0)⟩,[.rest aw,.gm 1 1 λ_=>[.int .u8 x],.rest a9]⟩]
def X0(x:Int):Int:=u8.wrap (il (u64.wrap (i64.wrap x)) (2^0))
def af2(k:Nat)(x:Int)(aw a9:List aj)(K:VK Empty):Prop:=(k=aw.length/\0<1/\∀_:Nat,[fI .u8 x].length=1)/\cond (decide (i64.wrap x<0)) (K (.aD [.raw (.slice ag 0 0),.bool ah]) (sZ k x aw a9) [])
 (cond (decide (i64.wrap x>255)) (K (.aD [.raw (.slice ag 0 0),.bool ah]) (sZ k x aw a9) []) (cond (il (u64.wrap (i64.wrap x)) (dS (2^(8*1)))!=0) (K (.aD [.raw (.slice ag 0 0),.bool ah]) (sZ k x aw a9) [])
  (K (.aD [.sl 2 0 1 1,.bool af]) (sZ k x aw a9++[⟨af,⟨5,(0,0)⟩,[.int .u8 (X0 x)]⟩]) [])))
def axi(k:Nat)(x:Int)(aw a9:List aj)(K:VK Empty):Kn 60 241 [.agg [.int .i64 1,.int .i64 0,.int .i64 255,.fn 247 [] [.ptr 0 0],.fn 248 [] [.ptr 0 0]]] (sZ k x aw a9) (bG 2 K)=af2 k x aw a9 K:=kR
def axj{x:Int}(h:0<=x/\x<=255):X0 x=x:=by
 unfold X0;rw[lB oM,BD,KZ oM oM];rw[show(2:Int)^0=1 from rfl,Int.fdiv_one,IntKind.wrap_u8,KZ oM oM]
def axk{k:Nat}{x:Int}{aw a9:List aj}{K:VK Empty}(hk:k=aw.length)(h:0<=x/\x<=255)(hK:K (.aD [.sl 2 0 1 1,.bool af]) (sZ k x aw a9++[⟨af,⟨5,(0,0)⟩,[.int .u8 x]⟩]) []):af2 k x aw a9 K:=by
 have e1:i64.wrap x=x:=lB oM;have e2:il (u64.wrap x) (dS (2^(8*1)))=0:=by
  rw[BD,KZ oM oM,show dS (2^(8*1))=256 from rfl,Int.fdiv_eq_ediv_of_nonneg _ oM];omega
 refine⟨⟨hk,oM,λ_=>rfl⟩,aN (λa=>?_) λ_=>aN (λa=>?_) λ_=>aN (λa=>?_) λ_=>?_⟩
 ·rw[e1]at a;exact absurd (of_decide_eq_true a) oM
 ·rw[e1]at a;exact absurd (of_decide_eq_true a) oM
 ·rw[e1,e2]at a;cases a
 ·rw[axj h];exact hK
def af3{n f n0:Nat}{ak:List V}{bl:List VB}{K:VK Empty}(h:tR (Kn n f ak bl (bG n0 K))){ae:List Nat}(hl:ae.length=bl.length)(hn:n0<=ae.length){bs:List av}{ms:List Nat}{w0 w:an}(S:St ms w0 (lits ae ae bl++bs) w):
 ba du f (aJ ae ak).toArray w λv w1=>∃x aq b,v=den (ae.take n0++aq) x/\(ae.take n0++aq).length=b.length/\St ms w0 (lits (ae.take n0++aq) (ae.take n0++aq) b++bs) w1/\K x b []:=by
 refine(eO (aK.nil (G:=Empty) (P:=du) (gl:=λ_=>ag)).T (aK.nil (G:=Empty) (P:=du) (gl:=λ_=>ag)).Q n (C:=gM du (λ_=>ag) ([]:List (bT Empty)) (HP du) MC) (ae:=ae) (bl:=bl) (ch:=[]) (R:=bs) Gl.no hl S h.h).mono ?_;rintro v w' ⟨y,aq,b9,ce,rfl,h1,S',hK⟩
 match ce,S',hK with
 |[],S',hK=>
  obtain⟨v2,cj,ci,e,cK,S2,hK⟩:=ig (n0:=n0) h1 (by simp;omega) S' hK;rw[List.take_append_of_le_length hn]at e cK S2;exact⟨v2,cj,ci,e,cK,S2,hK⟩
 |e::_,_,_=>nomatch e
def axl{q r k:Nat}{x:Int}{aw a9:List aj}{w:an}{f1 f2:Nat×Nat}(Ce:f1=(0,0))(Cf:f2=(0,0))(hq:w.heap[q]?=aa (.cells #[.pointer (aa ⟨r,k,ag⟩)] 337 f1))(hr:w.heap[r]?=aa (.cells (aw++(.int .u8 x::a9)).toArray 232 f2))(hk:k=aw.length)(h:0<=x/\x<=255):
 ba du 241 #[.agg #[.int .i64 1,.int .i64 0,.int .i64 255,.func (.func 247) #[] #[.pointer (aa ⟨q,0,ag⟩)],.func (.func 248) #[] #[.pointer (aa ⟨q,0,ag⟩)]]] w λv w1=>∃b,v=.tuple #[.slice (aa ⟨b,0,ag⟩) 1 1,.bool af]/\St [] w [⟨b,af,.cells #[.int .u8 x] 5 (0,0)⟩] w1:=by
 subst Ce Cf;have S:St [] w (lits [q,r] [q,r] (sZ k x aw a9)++[]) w:=by
  have:=St.given (w:=w) [(q,.cells #[.pointer (aa ⟨r,k,ag⟩)] 337 (0,0)),(r,.cells (aw++(.int .u8 x::a9)).toArray 232 (0,0))] (by
   intro p hp;simp only[cG,py,or_false]at hp;rcases hp with rfl|rfl
   ·exact hq
   ·exact hr)
  have e:lits [q,r] [q,r] (sZ k x aw a9)=[⟨q,ah,.cells #[.pointer (aa ⟨r,k,ag⟩)] 337 (0,0)⟩,⟨r,ah,.cells (aw++(.int .u8 x::a9)).toArray 232 (0,0)⟩]:=by
   simp[lits,aI,sZ,ao,cl,den,vK]
  rw[e];exact this
 have hx:tR (Kn 60 241 [.agg [.int .i64 1,.int .i64 0,.int .i64 255,.fn 247 [] [.ptr 0 0],.fn 248 [] [.ptr 0 0]]] (sZ k x aw a9) (bG 2 λv b _=>v=.aD [.sl 2 0 1 1,.bool af]/\b=sZ k x aw a9++[⟨af,⟨5,(0,0)⟩,[.int .u8 x]⟩])):=⟨by rw[axi];exact axk hk h ⟨rfl,rfl⟩⟩;have gi:=af3 hx (ae:=[q,r]) rfl sP S;clear hx;refine gi.mono ?_;rintro v w' ⟨y,aq,b,rfl,hl,S',rfl,rfl⟩
 match aq,hl with
 |[b],_=>
  refine⟨b,rfl,?_⟩;have e:lits ([q,r].take 2++[b]) ([q,r].take 2++[b]) (sZ k x aw a9++[⟨af,⟨5,(0,0)⟩,[.int .u8 x]⟩])=lits [q,r,b] [q,r] (sZ k x aw a9)++[⟨b,af,.cells #[.int .u8 x] 5 (0,0)⟩]:=rfl;rw[e]at S';exact(S'.sub (List.sublist_append_left _ _)).sub (kM _ _)
def X1{G:Type}:dm G:=λak bl ch K=>match ak with
 |[.agg [.int .i64 1,.int .i64 0,.int .i64 255,.fn 247 [] [.ptr q 0],.fn 248 [] [.ptr q' 0]]]=>(match bl[q]?with
  |some ⟨_,⟨337,(0,0)⟩,[.ptr r k]⟩=>(match bl[r]?with
   |some ⟨_,⟨232,(0,0)⟩,c⟩=>(match takeN c k with
    |some (_,.int .u8 x::_)=>cond (aC q q'&&bY bl.length bl) ((0<=x/\x<=255)/\K (.aD [.sl bl.length 0 1 1,.bool af]) (bl++[⟨af,⟨5,(0,0)⟩,[.int .u8 x]⟩]) ch) False
    |_=>False)
   |_=>False)
  |_=>False)
 |_=>False
def axm{G:Type}[Bl G](gl:Nat->Option Nat):Sound (G:=G) du gl 241 X1:=by
 intro ak ae bl ch R ms w0 w K hg hl S hc;unfold X1 at hc;split at hc
 ·rename_i q q';split at hc
  ·rename_i w1 r k rV;split at hc
   ·rename_i w2 c hbr;split at hc
    ·rename_i a x b ht;cases hq:aC q q'&&bY bl.length bl with
     |false=>rw[hq]at hc;exact hc.elim
     |true=>
      rw[hq]at hc;simp only[bJ]at hq;obtain⟨hx,hK⟩:=hc;obtain rfl:=cw hq.1;have h1:=(gp hl S rV).2;have h2:=(gp hl S hbr).2;obtain⟨t1,t2⟩:=Hb (ae:=ae) ht;rw[t1]at h2;have e2:ao ae (.int .u8 x::b)=.int .u8 x::ao ae b:=rfl;rw[e2]at h2;have e0:(aJ ae [.agg [.int .i64 1,.int .i64 0,.int .i64 255,.fn 247 [] [.ptr q 0],.fn 248 [] [.ptr q 0]]]).toArray=#[.agg #[.int .i64 1,.int .i64 0,.int .i64 255,.func (.func 247) #[] #[.pointer (aa ⟨ae.getD q 0,0,ag⟩)],.func (.func 248) #[] #[.pointer (aa ⟨ae.getD q 0,0,ag⟩)]]]:=rfl;rw[e0];refine(axl (q:=ae.getD q 0) (r:=ae.getD r 0) (k:=k) rfl rfl h1 h2 t2.symm hx).mono ?_;rintro v w' ⟨b',rfl,T⟩;have S2:=S.beside T (Wr.cons rfl Wr.nil);refine⟨_,[b'],_,ch,?_,by simp[hl],?_,hK⟩
      ·simp only[den,aJ,<-hl,lY]
      ·rw[fw _ _ _ _ hl,fy _ _ (by rw[hl];exact hq.2)];rw[bZ];exact S2.perm (rG [_] (lits ae ae bl) (ax ch R))
    ·exact hc.elim
   ·exact hc.elim
  ·exact hc.elim
 ·exact hc.elim
def X2(P:aL):(bA->V)->Op->List VB->List bD->VK bD->Prop:=λe op bl ch K=>match op with
 |.call c=>(match c.callee,c.args.toList,c.argTypes.toList with
  |.builtin .append,[s,xs],[t,tx]=>(match P.underlying t,P.underlying tx with
   |some (.slice T),aa (.slice _)=>(match tP P T,e s,e xs with
    |some (z,ct),.sl j 0 n c,.sl i 0 (m+1) _=>(match bl[j]?,bl[i]?with
     |some ⟨_,⟨_,(0,0)⟩,ac⟩,aa b=>(match z6 ac 0 (n*z)with
      |some C=>cond (aC n c&&(aC (cM ac) (c*z)&&(aC (cM b.c) ((m+1)*z)&&(nU b.c&&(ck ct 10000000&&(ck (n+(m+1)) 1000000&&(bF 0 C&&bF 0 b.c)))))))
       (∀(x:Option aF)(c':Nat)(bk:List av)(h:dk z T (ao [] C++ao [] b.c) x (n+(m+1)) c' bk),K (.raw (.slice x (n+(m+1)) c')) bl (⟨T,z,ao [] C++ao [] b.c,x,n+(m+1),c',bk,h⟩::ch)) False
      |none=>False)
     |_,_=>False)
    |_,_,_=>False)
   |_,_=>False)
  |_,_,_=>False)
 |_=>False
def axn{P:aL}{gl:Nat->Option Nat}:iF P gl (X2 P):=by
 intro e op ae bl ch R ms w0 w K ρ o hg hl S bo ho h;unfold X2 at h;split at h
 ·rename_i c;split at h
  ·rename_i s xs t tx fc cN dX;split at h
   ·rename_i T T' ht gj;split at h
    ·rename_i z ct j n cc i m oP cE gV fV;split at h
     ·rename_i wr Ta ac b ha hb;split at h
      ·rename_i C hC;cases hq:aC n cc&&(aC (cM ac) (cc*z)&&(aC (cM b.c) ((m+1)*z)&&(nU b.c&&(ck ct 10000000&&(ck (n+(m+1)) 1000000&&(bF 0 C&&bF 0 b.c))))))with
       |false=>rw[hq]at h;exact h.elim
       |true=>
        rw[hq]at h;simp only[cond_true]at h;simp only[bJ]at hq;obtain⟨q1,q2,q3,q4,q5,q6,q8,q9⟩:=hq;obtain rfl:=cw q1;have q2:=cw q2;have q3:=cw q3;have q5:=eU q5;have q6:=eU q6;have aV:=(gp hl S hb).2;have Se:=(gp hl S ha).2;obtain⟨g1,g2,g3⟩:=z_ (ae:=ae) hC;rw[List.drop_zero]at g1;have e1:∀l:List V,bF 0 l=af->ao ae l=ao [] l:=λl hw=>jI (ae:=[]) (aq:=ae) l hw;have X3:ao ae ac=ao [] C:=by rw[<-e1 C q8,<-g1,List.take_of_length_le (by rw[lW,q2];exact cW _)]
        obtain⟨inf,uW,hi⟩:=jr.1 (EI cE);simp only[bI]at hi;obtain⟨hz,dr,kC⟩:=hi;obtain⟨z0,nO,qF⟩:=jr.1 hz;have yb:(ao ae b.c).length=(m+1)*z:=by rw[lW,q3]
        have fh:Src P z tx (.slice (aa ⟨ae.getD i 0,0,ag⟩) (m+1) oP) (m+1) (ao [] b.c) w:=by
         rw[<-e1 b.c q9];refine qu w gj ⟨ae.getD i 0,0,ag⟩ (m+1) oP _ yb (λj u hj=>?_) (λu hu=>BV q4 u hu);rw[iY,cell_of aV];simpa using hj
        have Sf:w.heap[ae.getD j 0]?=aa (.cells (ao [] C++[]).toArray Ta (0,0)):=by rw[cy,<-X3];exact Se
        have iM:(n+(m+1))*ct<=140737488355328:=h_ (Nat.mul_le_mul q6 q5) dC;have hold:(Builtin.firstCells inf.size n (.slice (aa ⟨ae.getD j 0,0,ag⟩) n n)).run P w.drew=.ok (ao [] C).toArray w.drew:=by
         refine run_firstCells_some (P:=P) w.drew inf.size n ⟨ae.getD j 0,0,ag⟩ n n (ao [] C) (by rw[<-X3,lW,q2,dr]) (λk v hk=>?_);rw[iY];have:w.drew.cell? ⟨ae.getD j 0,0+k,ag⟩=w.cell? ⟨ae.getD j 0,k,ag⟩:=sP;rw[this,cell_of Sf,cy];simpa using hk
        have b_:=run_append_grow_src (P:=P) w t tx o.type T inf z0 ht uW nO (aa ⟨ae.getD j 0,0,ag⟩) n n (ao [] C) hold (.slice (aa ⟨ae.getD i 0,0,ag⟩) (m+1) oP) (m+1) (ao [] b.c) (by rw[dr];exact fh) oM oM (by rw[kC];exact growslice_fits oM iM);have fJ:=grownCap_ge w (n+(m+1)) n T;obtain⟨mJ,ar,iO⟩:=c;simp only at fc cN dX;have e2:ar=#[s,xs]:=by rw[<-cN]
        have e3:iO=#[t,tx]:=by rw[<-dX]
        subst fc e2 e3;have kF:ρ s=.slice (aa ⟨ae.getD j 0,0,ag⟩) n n:=by rw[bo,gV];simp only[den]
        have oT:ρ xs=.slice (aa ⟨ae.getD i 0,0,ag⟩) (m+1) oP:=by rw[bo,fV];simp only[den]
        let tl:=(rD z0.cells (grownCap w (n+(m+1)) n T-(n+(m+1)))).toList
        have ji:dk z T (ao [] C++ao [] b.c) (aa ⟨w.heap.size,0,ag⟩) (n+(m+1)) (grownCap w (n+(m+1)) n T) [⟨w.heap.size,af,.cells ((ao [] C++ao [] b.c)++tl).toArray T (0,0)⟩]:=by
         have l1:(ao [] C).length=n*z:=by rw[<-X3,lW,q2]
         have l2:(ao [] b.c).length=(m+1)*z:=by rw[<-e1 b.c q9,yb]
         refine⟨by rw[fH,l1,l2,<-oD],fJ,.inr ⟨_,tl,rfl,rfl,?_⟩⟩;rw[fH,fH,l1,l2,w7,size_zeroCells,qF,<-oD,<-oD];congr 1;omega
        refine⟨.raw (.slice (aa ⟨w.heap.size,0,ag⟩) (n+(m+1)) (grownCap w (n+(m+1)) n T)),[],bl,_,_,.inl (jU (P:=P) (ρ:=ρ) (o:=o) ho kF oT b_),by simpa using hl,?_,h _ _ _ ji⟩;rw[cy];have hn:=oB w.drew (.cells ((ao [] C++ao [] b.c).toArray++rD z0.cells (grownCap w (n+(m+1)) n T-(n+(m+1)))) T);have hce:(ao [] C++ao [] b.c).toArray++rD z0.cells (grownCap w (n+(m+1)) n T-(n+(m+1)))=((ao [] C++ao [] b.c)++tl).toArray:=by apply fP;simp[tl]
        rw[hce]at hn⊢;have S2:=S.new (((Ch.refl [] w).drew).trans (Ch.alloc [] w.drew _) (λx hx=>.inl hx)) (cW _) hn;refine S2.perm ?_;exact rG [_] (lits ae ae bl) (ax ch R)
      ·exact h.elim
     ·exact h.elim
    ·exact h.elim
   ·exact h.elim
  ·exact h.elim
 ·exact h.elim
def af4(e:bA->V)(op:Op):Bool:=match op with
 |.call c=>(match c.args.toList with
  |s::_=>(match e s with|.raw _=>af|_=>ah)
  |_=>ah)
 |_=>ah
def X5(P:aL):(bA->V)->Op->List VB->List bD->VK bD->Prop:=λe op bl ch K=>cond (af4 e op) (Mt P e op bl ch K) (X2 P e op bl ch K)
def af5{P:aL}{gl:Nat->Option Nat}:iF P gl (X5 P):=Co af4 aa2 axn
def X6:List (bT bD):=[⟨241,ah,X1⟩]
def af6:aK du (λ_=>ag) X6:=aK.cons ⟨axm _,λe=>by cases e⟩ aK.nil
def X7(n:Nat)(f:fG)(ak:List V)(bl:List VB)(K:VK bD):Prop:=bz (gM du (λ_=>ag) X6 (X5 du) af5) n f ak bl [] K
def ap9(g:bD)(x:Int)(k:bD->Prop):Prop:=(g.v=g.v/\g.n+1<=1000000)/\∀(xa:Option aF)(c:Nat)(bk:List av)(h:dk g.z g.T (g.os++[.int .u8 x]) xa (g.n+1) c bk),k ⟨g.T,g.z,g.os++[.int .u8 x],xa,g.n+1,c,bk,h⟩
def X8(nc:Nat->Int)(E:bD->Prop):Nat->Nat->bD->Prop
 |0,_,g=>E g
 |k+1,i,g=>(0<=nc i/\nc i<=255)/\ap9 g (nc i) (X8 nc E k (i+1))
def axo(nc:Nat->Int)(E:bD->Prop):Prop:=(0<=nc 0/\nc 0<=255)/\∀(x:Option aF)(c:Nat)(bk:List av)(h:dk 1 5 ([.int .u8 129]++[.int .u8 (nc 0)]) x 2 c bk),X8 nc E 7 1 ⟨5,1,[.int .u8 129]++[.int .u8 (nc 0)],x,2,c,bk,h⟩
def axp(nc:Nat->Int)(c:Nat)(u:List aj)(K:VK bD):X7 90 212 [.int .i64 129,.sl 1 0 8 c] (sY nc u) (bG 10 K)=axo nc λg=>K (.aD [g.v,.bool af]) (sY nc u) [g]:=kR
def axq(nc:Nat->Int)(K:VK Empty):Kn 60 211 [.ptr 0 0] [XZ nc] (bG 1 K)=∀(c:Nat)(u:List aj),1<=c->DJ 1 u c->Km (λc u=>K (.aD [.sl 1 0 8 c,.bool af]) (sY nc u) []) 7 1 c u:=kR
def axr{n f n0:Nat}{ak:List V}{bl:List VB}{K:VK bD}(h:tR (X7 n f ak bl (bG n0 K))){ae:List Nat}(hl:ae.length=bl.length)(hn:n0<=ae.length){bs:List av}{ms:List Nat}{w0 w:an}(S:St ms w0 (lits ae ae bl++bs) w):
 ba du f (aJ ae ak).toArray w λv w1=>∃x aq b ch,v=den (ae.take n0++aq) x/\(ae.take n0++aq).length=b.length/\St ms w0 (lits (ae.take n0++aq) (ae.take n0++aq) b++ax ch bs) w1/\K x b ch:=by
 refine(eO af6.T af6.Q n (C:=gM du (λ_=>ag) X6 (X5 du) af5) (ae:=ae) (bl:=bl) (ch:=[]) (R:=bs) Gl.no hl S h.h).mono ?_;rintro v w' ⟨y,aq,b9,ce,rfl,h1,S',hK⟩;obtain⟨v2,cj,ci,e,cK,S2,hK⟩:=ig (n0:=n0) h1 (by simp;omega) S' hK;rw[List.take_append_of_le_length hn]at e cK S2;exact⟨v2,cj,ci,ce,e,cK,S2,hK⟩
def f9(nc:Nat->Int):Nat->Int:=gK [129,nc 0,nc 1,nc 2,nc 3,nc 4,nc 5,nc 6,nc 7]
structure PG(nc:Nat->Int)(g:bD):Prop where
 T:g.T=5
 z:g.z=1
 n:g.n=9
 os:g.os=(bg 9).map λj=>.int .u8 (f9 nc j)
def X9:dm bD:=λak bl ch K=>match ak,bl with
 |[.ptr 0 0],[⟨af,⟨232,(0,0)⟩,c⟩]=>∃nc,c=DH nc/\∀(k:Nat)(u:List aj),8<=k->K (.aD [.sl 1 0 8 k,.bool af]) (sY nc u) ch
 |_,_=>False
def X_:dm bD:=λak bl ch K=>match ak with
 |[.int .i64 129,.sl 1 0 8 _]=>∃nc u,bl=sY nc u/\(∀j,0<=nc j/\nc j<=255)/\∀g:bD,PG nc g->K (.aD [g.v,.bool af]) bl (g::ch)
 |_=>False
def axs:Sound du (λ_=>ag) 211 X9:=by
 intro ak ae bl ch R ms w0 w K hg hl S hc;unfold X9 at hc;split at hc
 ·rename_i c;obtain⟨nc,rfl,hK⟩:=hc
  match ae,hl with
  |[r],_=>
   have hv:tR (Kn 60 211 [.ptr 0 0] [XZ nc] (bG 1 λv b _=>∃k u,v=.aD [.sl 1 0 8 k,.bool af]/\b=sY nc u/\8<=k)):=⟨by rw[axq];exact λc u h1 h2=>af1 7 1 c u h1 h2 λk u h _=>⟨k,u,rfl,rfl,h⟩⟩;have hr:=af3 hv (ae:=[r]) (bs:=ax ch R) rfl sP S;clear hv;refine hr.mono ?_;rintro v w' ⟨x,aq,b,rfl,h1,S2,k,u,rfl,rfl,h8⟩;exact⟨_,aq,_,ch,rfl,h1,S2,hK k u h8⟩
 ·exact hc.elim
def af7{nc:Nat->Int}(kD:∀j,0<=nc j/\nc j<=255){E:bD->Prop}:∀(k i:Nat)(g:bD),g.T=5->g.z=1->g.n=i+1->g.os=.int .u8 129::(bg i).map (λj=>.int .u8 (nc j))->i+k<=100->
 (∀g:bD,g.T=5->g.z=1->g.n=i+k+1->g.os=.int .u8 129::(bg (i+k)).map (λj=>.int .u8 (nc j))->E g)->X8 nc E k i g
 |0,i,g,h1,h2,h3,h4,_,hE=>hE g h1 h2 h3 h4
 |k+1,i,g,h1,h2,h3,h4,hb,hE=>⟨kD i,⟨rfl,oM⟩,λxa c bk h=>af7 kD k (i+1) _ h1 h2 (by show g.n+1=_;omega) (by show g.os++_=_;rw[h4,vK,uw];rfl) oM λg a b c d=>hE g a b oM (by rw[d,show i+1+k=i+(k+1) by omega])⟩
def axt:Sound du (λ_=>ag) 212 X_:=by
 intro ak ae bl ch R ms w0 w K hg hl S hc;unfold X_ at hc;split at hc
 ·rename_i c;obtain⟨nc,u,rfl,kD,hK⟩:=hc;have hv:tR (X7 90 212 [.int .i64 129,.sl 1 0 8 c] (sY nc u) (bG 10 λv b ch=>∃g,v=.aD [g.v,.bool af]/\b=sY nc u/\ch=[g]/\PG nc g)):=⟨by
   rw[axp];exact⟨kD 0,λx c bk h=>af7 kD 7 1 _ rfl rfl rfl rfl oM λg a b c d=>⟨g,rfl,rfl,rfl,a,b,c,by rw[d];rfl⟩⟩⟩
  have hr:=axr hv (ae:=ae) (bs:=ax ch R) hl (by rw[hl];simp[sY,PF]) S;clear hv;refine hr.mono ?_;rintro v w' ⟨x,aq,b,ce,rfl,h1,S2,g,rfl,rfl,rfl,h9⟩;have dl:ae.length=10:=by rw[hl];simp[sY,PF]
  have hm:aq=[]:=by
   have:(ae.take 10++aq).length=10:=by rw[h1];simp[sY,PF]
   rw[fH,w9,dl]at this;exact kX (by simpa using this)
  subst hm;rw[List.take_of_length_le oM]at S2 h1;refine⟨_,[],_,_,?_,h1,S2,hK g h9⟩;rw[List.take_of_length_le oM]
 ·exact hc.elim
def Ya:List (bT bD):=[⟨211,ah,X9⟩,⟨212,ah,X_⟩]
def af8:aK du (λ_=>ag) Ya:=aK.cons ⟨axs,λe=>by cases e⟩ (aK.cons ⟨axt,λe=>by cases e⟩ aK.nil)
def Yb(n:Nat)(f:fG)(ak:List V)(K:VK bD):Prop:=bz (bU du (λ_=>ag) Ya) n f ak [] [] K
def axu{n f:Nat}{ak:List V}{K:VK bD}(h:tR (Yb n f ak (bG 0 K))){w:an}:
 ba du f (aJ [] ak).toArray w λv w1=>∃x b ch,(b=[]->v=den [] x)/\(b=[]->St [] w (ax ch []) w1)/\K x b ch:=by
 refine(eO af8.T af8.Q n (C:=bU du (λ_=>ag) Ya) (ae:=[]) (bl:=[]) (ch:=[]) (R:=[]) (ms:=[]) (w0:=w) (w:=w) Gl.no rfl (St.nil [] w) h.h).mono ?_;rintro v w' ⟨y,aq,b9,ce,rfl,h1,S',hK⟩;obtain⟨v2,cj,ci,e,cK,S2,hK⟩:=ig (n0:=0) (ae:=aq) h1 sP S' hK;refine⟨v2,ci,ce,λhb=>?_,λhb=>?_,hK⟩
 ·subst hb;obtain rfl:cj=[]:=by simpa using cK
  exact e
 ·subst hb;obtain rfl:cj=[]:=by simpa using cK
  exact S2
def axv(nc:Nat->Int)(K:VK bD):Yb 60 165 [.agg (DH nc)] (bG 0 K)=∃nc1,DH nc=DH nc1/\∀(k:Nat)(u:List aj),8<=k->∃PH u2,sY nc1 u=sY PH u2/\(∀j,0<=PH j/\PH j<=255)/\∀g:bD,PG PH g->K (.aD [g.v,.int .i64 0]) [] [g]:=kR
def axw(nc:Nat->Int)(h:∀j,0<=nc j/\nc j<=255)(w:an):ba du 165 (aJ [] [.agg (DH nc)]).toArray w λv w1=>∃b c1,v=.tuple #[.slice (aa ⟨b,0,ag⟩) 9 c1,.int .i64 0]/\9<=c1/\w.heap.size<=b/\cJ w1 b 0 9 (f9 nc)/\Ch [] w w1:=by
 have hv:tR (Yb 60 165 [.agg (DH nc)] (bG 0 λv b ch=>∃g,v=.aD [g.v,.int .i64 0]/\b=[]/\ch=[g]/\PG nc g)):=⟨by rw[axv];exact⟨nc,rfl,λk u _=>⟨nc,u,rfl,h,λg hg=>⟨g,rfl,rfl,rfl,hg⟩⟩⟩⟩;have hr:=axu hv (w:=w);clear hv;refine hr.mono ?_;rintro v w' ⟨x,b,ce,e,S2,g,rfl,rfl,rfl,h1,h2,h3,h4⟩;have e:=e rfl;have S2:=S2 rfl;have hg:=g.h;rw[h1,h2,h3,h4]at hg;obtain⟨_,hc,hx⟩:=hg;rcases hx with⟨_,h0,_⟩|⟨b,t,hx,hb,_⟩
 ·cases h0
 ·have S3:St [] w ([⟨b,af,.cells (((bg 9).map λj=>fI .u8 (f9 nc j))++t).toArray 5 (0,0)⟩]++[]) w':=by
   have:St [] w (g.bl++[]) w':=S2;rw[hb]at this;exact this
  refine⟨b,g.c,?_,hc,(S3.own 0 _ rfl rfl).resolve_left sP,λj hj=>?_,S3.ch⟩
  ·rw[e];simp only[den,aJ,bD.v,hx,h3]
  ·rw[d_,cell_of (S3.at_ 0 _ rfl)];simp only[j7];rw[gB (by simpa using hj)];simp[pr hj]
end
section
def Yc(r:aQ):Array aj:=#[.int .i64 r.kind,.int .i64 r.seq,.int .i64 r.role,.int .i64 r.fa,.int .i64 r.au,.int .i64 r.code,.int .u8 (r.aR 0),.int .u8 (r.aR 1),.int .u8 (r.aR 2),.int .u8 (r.aR 3),.int .u8 (r.aR 4),.int .u8 (r.aR 5),.int .u8 (r.aR 6),.int .u8 (r.aR 7)]
def gT(r:aQ):Nat:=if r.kind=129 then 9 else if r.kind=130\/r.kind=131 then 5 else if r.kind=132 then 6 else if r.kind=133\/r.kind=136 then 3 else 4
def Bh(r:aQ):Nat->Int:=if r.kind=129 then f9 r.aR else if r.kind=130 then gK [130,bO 1 (u64.wrap r.role) 0,bO 1 (u64.wrap r.fa) 0,bO 2 (u64.wrap r.au) 0,bO 2 (u64.wrap r.au) 1]
 else if r.kind=131 then gK [131,bO 4 (u64.wrap r.seq) 0,bO 4 (u64.wrap r.seq) 1,bO 4 (u64.wrap r.seq) 2,bO 4 (u64.wrap r.seq) 3]else if r.kind=132 then gK [132,bO 4 (u64.wrap r.seq) 0,bO 4 (u64.wrap r.seq) 1,bO 4 (u64.wrap r.seq) 2,bO 4 (u64.wrap r.seq) 3,bO 1 (u64.wrap r.code) 0]
 else if r.kind=133 then gK [133,bO 2 (u64.wrap r.au) 0,bO 2 (u64.wrap r.au) 1]else if r.kind=134 then gK [134,bO 1 (u64.wrap r.fa) 0,bO 2 (u64.wrap r.au) 0,bO 2 (u64.wrap r.au) 1]
 else if r.kind=135 then gK [135,bO 1 (u64.wrap r.fa) 0,bO 2 (u64.wrap r.au) 0,bO 2 (u64.wrap r.au) 1]else gK [136,bO 1 (u64.wrap r.fa) 0,bO 1 (u64.wrap r.code) 0]
def axx(r:aQ):gT r=3\/gT r=4\/gT r=5\/gT r=6\/gT r=9:=by
 unfold gT;repeat' split
 all_goals simp
def axy(r:aQ)(h:RB r)(w:an):ba du 165 #[.agg (Yc r)] w λv w1=>∃b c1,v=.tuple #[.slice (aa ⟨b,0,ag⟩) (gT r) c1,.int .i64 0]/\gT r<=c1/\w.heap.size<=b/\cJ w1 b 0 (gT r) (Bh r)/\Ch [] w w1:=by
 have hk:r.kind=129\/r.kind=130\/r.kind=131\/r.kind=132\/r.kind=133\/r.kind=134\/r.kind=135\/r.kind=136:=by have:=h.kind;omega
 obtain⟨k,sq,ro,wh,ep,co,nc⟩:=r;obtain⟨_,⟨s1,s2⟩,⟨r1,r2⟩,⟨w1,w2⟩,⟨e1,e2⟩,⟨c1,c2⟩,⟨n1,n2⟩⟩:=h;simp only at*;rcases hk with rfl|rfl|rfl|rfl|rfl|rfl|rfl|rfl<;>simp at s2 r2 w2 e2 c2 n2<;>subst_vars
 ·exact axw nc n1 w
 ·exact axc ro wh ep r1 w1 e1 w
 ·exact axb sq s1 w
 ·exact axd sq co s1 c1 w
 ·exact axe ep e1 w
 ·exact axf wh ep w1 e1 w
 ·exact axg wh ep w1 e1 w
 ·exact axa wh co w1 c1 w
def axz(n:Nat)(hn:n=3\/n=4\/n=5\/n=6\/n=9)(b o c:Nat)(f:Nat->Int)(w:an)(hB:cJ w b o n f):
 ba du 166 #[.slice (aa ⟨b,o,ag⟩) n c] w λv w1=>∃b c1,v=.tuple #[.slice (aa ⟨b,0,ag⟩) (n+5) c1,.int .i64 0]/\n+5<=c1/\w.heap.size<=b/\w1.heap[b]?=aa (.cells (bM (n+5) (yD n f) c1) 5 (0,0))/\Ch [] w w1:=by
 exact amY b o n c f oM w hB
def axA(xs:Option aF)(ns cs:Nat)(ez bc:Nat)(x:Option aF)(n c:Nat)(bl:List av)(so:List aj)(l:Int)(r:aQ)(Yd:RB r)(w:an){ms:List Nat}{w0:an}{bs:List av}(S0:St ms w0 ([⟨ez,af,.cells #[.pointer (aa ⟨bc,0,ag⟩),.slice xs ns cs,.slice x n c] 135 (0,0)⟩]++(bl++bs)) w)(hR:dk 2 61 so xs ns cs bl)(hn:ns<=1000):
 ba du 124 #[.pointer (aa ⟨ez,0,ag⟩),.int .i64 l,.agg #[.int .i64 r.kind,.int .i64 r.seq,.int .i64 r.role,.int .i64 r.fa,.int .i64 r.au,.int .i64 r.code,.int .u8 (r.aR 0),.int .u8 (r.aR 1),.int .u8 (r.aR 2),.int .u8 (r.aR 3),.int .u8 (r.aR 4),.int .u8 (r.aR 5),.int .u8 (r.aR 6),.int .u8 (r.aR 7)]] w λv w1=>∃x1 c1 jX bf cf,v=.tuple #[]/\dk 2 61 (so++[.int .i64 l,.slice (aa ⟨bf,0,ag⟩) (gT r+5) cf]) x1 (ns+1) c1 jX/\gT r+5<=cf/\St ms w0 ([⟨ez,af,.cells #[.pointer (aa ⟨bc,0,ag⟩),.slice x1 (ns+1) c1,.slice x n c] 135 (0,0)⟩]++(jX++(⟨bf,af,.cells (bM (gT r+5) (yD (gT r) (Bh r)) cf) 5 (0,0)⟩::bs))) w1:=by
 refine jT Tryz.func124 rfl ?_;refine aW (bu ?_);refine fQ S0 (λb=>.pointer (aa ⟨b,0,ag⟩)) (.cells #[.int .i64 r.kind,.int .i64 r.seq,.int .i64 r.role,.int .i64 r.fa,.int .i64 r.au,.int .i64 r.code,.int .u8 (r.aR 0),.int .u8 (r.aR 1),.int .u8 (r.aR 2),.int .u8 (r.aR 3),.int .u8 (r.aR 4),.int .u8 (r.aR 5),.int .u8 (r.aR 6),.int .u8 (r.aR 7)] 232) ?_;intro dh jY fl;refine bh (aZ (aW (bu ?_)));refine nL fl 0 14 #[.int .i64 r.kind,.int .i64 r.seq,.int .i64 r.role,.int .i64 r.fa,.int .i64 r.au,.int .i64 r.code,.int .u8 (r.aR 0),.int .u8 (r.aR 1),.int .u8 (r.aR 2),.int .u8 (r.aR 3),.int .u8 (r.aR 4),.int .u8 (r.aR 5),.int .u8 (r.aR 6),.int .u8 (r.aR 7)] dh 0 ?_;refine gH 165 #[.agg #[.int .i64 r.kind,.int .i64 r.seq,.int .i64 r.role,.int .i64 r.fa,.int .i64 r.au,.int .i64 r.code,.int .u8 (r.aR 0),.int .u8 (r.aR 1),.int .u8 (r.aR 2),.int .u8 (r.aR 3),.int .u8 (r.aR 4),.int .u8 (r.aR 5),.int .u8 (r.aR 6),.int .u8 (r.aR 7)]] ?_;refine(axy r Yd _).mono ?_;rintro _ HY ⟨u5,Ye,rfl,Cy,n8,mL,HZ⟩;have eQ:=fl.quiet HZ;refine dI ?_;refine aG (.slice (aa ⟨u5,0,ag⟩) (gT r) Ye) ?_;refine aG (.int .i64 0) ?_;refine gC ?_;refine aG (.int .i64 0) ?_;refine bh (aZ (aW (bu ?_)));refine dI ?_;refine gH 166 #[.slice (aa ⟨u5,0,ag⟩) (gT r) Ye] ?_;refine(axz (gT r) (axx r) u5 0 Ye (Bh r) _ mL).mono ?_;rintro _ S_ ⟨n9,l9,rfl,EU,HV,Az,qQ⟩;have qS:=eQ.new qQ HV Az;refine dI ?_;refine aG (.slice (aa ⟨n9,0,ag⟩) (gT r+5) l9) ?_;refine aG (.int .i64 0) ?_;refine gC ?_;refine aG (.int .i64 0) ?_;refine bh (aZ (bu ?_));refine dI ?_;refine dI ?_;refine aG (.pointer (aa ⟨ez,0,ag⟩)) ?_;refine aG (.pointer (aa ⟨ez,1,ag⟩)) ?_;refine rH qS 2 (.slice xs ns cs) ez 1 ?_;refine aG (.int .i64 l) ?_;refine dI ?_;refine aG (.agg #[.int .i64 l,.slice (aa ⟨n9,0,ag⟩) (gT r+5) l9]) ?_;refine fQ qS (λb=>.slice (aa ⟨b,0,ag⟩) 1 1) (.cells #[.int .i64 l,.slice (aa ⟨n9,0,ag⟩) (gT r+5) l9] 61) ?_;intro Ko acF CB;have axB:St ms w0 ([⟨Ko,af,.cells #[.int .i64 l,.slice (aa ⟨n9,0,ag⟩) (gT r+5) l9] 61 (0,0)⟩,⟨n9,af,.cells (bM (gT r+5) (yD (gT r) (Bh r)) l9) 5 (0,0)⟩,⟨dh,af,.cells #[.int .i64 r.kind,.int .i64 r.seq,.int .i64 r.role,.int .i64 r.fa,.int .i64 r.au,.int .i64 r.code,.int .u8 (r.aR 0),.int .u8 (r.aR 1),.int .u8 (r.aR 2),.int .u8 (r.aR 3),.int .u8 (r.aR 4),.int .u8 (r.aR 5),.int .u8 (r.aR 6),.int .u8 (r.aR 7)] 232 (0,0)⟩,⟨ez,af,.cells #[.pointer (aa ⟨bc,0,ag⟩),.slice xs ns cs,.slice x n c] 135 (0,0)⟩]++(bl++bs)) acF:=CB.re (R:=bs) [[⟨Ko,af,.cells #[.int .i64 l,.slice (aa ⟨n9,0,ag⟩) (gT r+5) l9] 61 (0,0)⟩],[⟨n9,af,.cells (bM (gT r+5) (yD (gT r) (Bh r)) l9) 5 (0,0)⟩],[⟨dh,af,.cells #[.int .i64 r.kind,.int .i64 r.seq,.int .i64 r.role,.int .i64 r.fa,.int .i64 r.au,.int .i64 r.code,.int .u8 (r.aR 0),.int .u8 (r.aR 1),.int .u8 (r.aR 2),.int .u8 (r.aR 3),.int .u8 (r.aR 4),.int .u8 (r.aR 5),.int .u8 (r.aR 6),.int .u8 (r.aR 7)] 232 (0,0)⟩],[⟨ez,af,.cells #[.pointer (aa ⟨bc,0,ag⟩),.slice xs ns cs,.slice x n c] 135 (0,0)⟩],bl] [0,1,2,3,4];refine ahB (z:=2) (T:=61) (bw:=so) (xs:=xs) (n:=ns) (c:=cs) (m:=1) (dt:=[.int .i64 l,.slice (aa ⟨n9,0,ag⟩) (gT r+5) l9]) (xv:=.slice (aa ⟨Ko,0,ag⟩) 1 1) (A:=[⟨Ko,af,.cells #[.int .i64 l,.slice (aa ⟨n9,0,ag⟩) (gT r+5) l9] 61 (0,0)⟩,⟨n9,af,.cells (bM (gT r+5) (yD (gT r) (Bh r)) l9) 5 (0,0)⟩,⟨dh,af,.cells #[.int .i64 r.kind,.int .i64 r.seq,.int .i64 r.role,.int .i64 r.fa,.int .i64 r.au,.int .i64 r.code,.int .u8 (r.aR 0),.int .u8 (r.aR 1),.int .u8 (r.aR 2),.int .u8 (r.aR 3),.int .u8 (r.aR 4),.int .u8 (r.aR 5),.int .u8 (r.aR 6),.int .u8 (r.aR 7)] 232 (0,0)⟩,⟨ez,af,.cells #[.pointer (aa ⟨bc,0,ag⟩),.slice xs ns cs,.slice x n c] 135 (0,0)⟩]) (bl:=bl) (R:=bs) axB hR (ahA CB 0 1 2 [.int .i64 l,.slice (aa ⟨n9,0,ag⟩) (gT r+5) l9] (tx:=44) (e':=61) kR kR kR rF) 32 (hbd:=oM) (h63:=(by unfold maxLen;omega)) (k:=?_);intro Yf Yg af9 aAj E0 axC;refine aG (.pointer (aa ⟨ez,0,ag⟩)) ?_;refine aG (.pointer (aa ⟨ez,1,ag⟩)) ?_;refine store_ axC 3 (.slice Yf (ns+1) Yg) ez 1 ?_;intro MK SH;refine bh ?_;refine end_ rfl (iI [] [] (.tuple #[]) trivial) ?_;refine⟨Yf,Yg,af9,n9,l9,rfl,?_,EU,?_⟩
 ·exact E0
 ·exact SH.re (R:=bs) [[⟨Ko,af,.cells #[.int .i64 l,.slice (aa ⟨n9,0,ag⟩) (gT r+5) l9] 61 (0,0)⟩],[⟨n9,af,.cells (bM (gT r+5) (yD (gT r) (Bh r)) l9) 5 (0,0)⟩],[⟨dh,af,.cells #[.int .i64 r.kind,.int .i64 r.seq,.int .i64 r.role,.int .i64 r.fa,.int .i64 r.au,.int .i64 r.code,.int .u8 (r.aR 0),.int .u8 (r.aR 1),.int .u8 (r.aR 2),.int .u8 (r.aR 3),.int .u8 (r.aR 4),.int .u8 (r.aR 5),.int .u8 (r.aR 6),.int .u8 (r.aR 7)] 232 (0,0)⟩],[⟨ez,af,.cells #[.pointer (aa ⟨bc,0,ag⟩),.slice Yf (ns+1) Yg,.slice x n c] 135 (0,0)⟩],af9] [3,4,1]
end
section
def mA(r:aQ):Nat×az:=(gT r+5,yD (gT r) (Bh r))
def axD{l:List V}{r:aQ}(h:Vw l=aa r)(ae:List Nat):(ao ae l).toArray=Yc r:=by
 unfold Vw at h;split at h
 ·split at h
  ·obtain rfl:=cP h;kernel_rfl
  ·obtain rfl:=cP h;kernel_rfl
  ·cases h
 ·cases h
def af_(r c s k t:av)(A B E R:List av):([r,c,s,k,t]++((A++(B++E))++R)).Perm ([s]++(B++(r::c::k::t::(A++(E++R))))):=by
 have h1:([r,c,s,k,t]++((A++(B++E))++R)).Perm (s::r::c::k::t::((A++(B++E))++R)):=by
  refine((Bz s c _).cons r).trans ?_;exact Bz s r _
 refine h1.trans (vJ s ?_);have h2:([r,c,k,t]++(A++(B++(E++R)))).Perm (B++([r,c,k,t]++(A++(E++R)))):=by
  have e1:[r,c,k,t]++(A++(B++(E++R)))=([r,c,k,t]++A)++(B++(E++R)):=sP;have e2:B++([r,c,k,t]++(A++(E++R)))=B++(([r,c,k,t]++A)++(E++R)):=sP;rw[e1,e2];exact rG _ _ _
 simpa[bZ]using h2
def bx.tell{fr:aQ->Nat×az}{k:LK}{s:ai}(F:bx fr (bd k s))(l:Int)(r:aQ){x1:Option aF}{c1:Nat}{jX Bf:List av}{so:List aj}(hs:dk 2 61 so x1 (s.tell l r).bE.length c1 jX)(hf:CR fr (s.tell l r).bE so Bf):bx fr (bd k (s.tell l r)):=
 ⟨x1,c1,F.xr,F.cr,F.Bq,F.Br,jX,Bf,F.Bk,so,F.hq,F.hr,hs,hf,F.hk⟩
def axE:Body (fr:=mA) 124 dE:=by
 intro ar k s F Kb a b c R ms w0 w h0 hq hM S;unfold dE at hM;split at hM
 ·rename_i l rl;split at hM
  ·rename_i r hr;have hrm:=hM.1.1;have Yd:=hM.1.2;have hK:=hM.2;have e1:lits (cv a b c) (cv a b c) (bP k s F)=[aI (cv a b c) 0 (cx k),aI (cv a b c) 1 (g_ k),⟨a,af,.cells #[.pointer (aa ⟨b,0,ag⟩),F.vs,F.vr] 135 (0,0)⟩,aI (cv a b c) b (fM k 4 s),aI (cv a b c) c (fA s)]:=kR;rw[e1,Vk]at S;have S1:=S.perm (af_ _ _ _ _ _ _ _ _ _);have e2:(aJ (cv a b c) (.ptr 2 0::[.int .i64 l,.agg rl])).toArray=#[.pointer (aa ⟨a,0,ag⟩),.int .i64 l,.agg (Yc r)]:=by
    have:=axD hr (cv a b c);simp only[aJ,den,this];rfl
   rw[e2];have hn:s.bE.length<=1000:=by have:=hrm.1;omega
   refine(axA _ _ _ _ _ _ _ _ _ _ l r Yd w S1 F.hs hn).mono ?_;rintro v w1 ⟨x1,c1,jX,bf,cf,rfl,kF,hcf,S2⟩;have hl:(s.tell l r).bE.length=s.bE.length+1:=by simp[ai.tell]
   have iJ:dk 2 61 (F.so++[.int .i64 l,.slice (aa ⟨bf,0,ag⟩) (mA r).1 cf]) x1 (s.tell l r).bE.length c1 jX:=by rw[hl];exact kF
   have BZ:CR mA (s.tell l r).bE (F.so++[.int .i64 l,.slice (aa ⟨bf,0,ag⟩) (mA r).1 cf]) (F.Bf++[⟨bf,af,.cells (bM (mA r).1 (mA r).2 cf) 5 (0,0)⟩]):=F.hf.snoc l r (aa ⟨bf,0,ag⟩) cf _ ⟨hcf,.inr ⟨bf,rfl,rfl⟩⟩
   let F':bx mA (bd k (s.tell l r)):=F.tell l r iJ BZ
   refine⟨.aD [],_,F',rfl,rfl,rfl,hK F',?_⟩;have e3:lits (cv a b c) (cv a b c) (bP k (s.tell l r) F')=[aI (cv a b c) 0 (cx k),aI (cv a b c) 1 (g_ k),⟨a,af,.cells #[.pointer (aa ⟨b,0,ag⟩),.slice x1 (s.tell l r).bE.length c1,F.vr] 135 (0,0)⟩,aI (cv a b c) b (fM k 4 s),aI (cv a b c) c (fA s)]:=kR;have e4:F'.B=F.Br++(jX++((F.Bf++[⟨bf,af,.cells (bM (mA r).1 (mA r).2 cf) 5 (0,0)⟩])++(F.Bq++F.Bk))):=rfl;rw[e3,e4,hl];refine(S2.perm ?_).perm (af_ _ _ _ _ _ _ _ _ _).symm;refine j8 _ (j8 _ ?_);have p:∀(f x1 x2 x3 x4:av)(A E D R:List av),(f::x1::x2::x3::x4::(A++((E++D)++R))).Perm (x1::x2::x3::x4::(A++(((E++[f])++D)++R))):=by
    intro f x1 x2 x3 x4 A E D R;have q1:f::x1::x2::x3::x4::(A++((E++D)++R))=[f]++(([x1,x2,x3,x4]++(A++E))++(D++R)):=sP;have q2:x1::x2::x3::x4::(A++(((E++[f])++D)++R))=([x1,x2,x3,x4]++(A++E))++([f]++(D++R)):=sP;rw[q1,q2];exact rG _ _ _
   exact p _ _ _ _ _ _ _ _ _
  ·exact hM.elim
 ·exact hM.elim
end
end Go.Proofs.YtddcipamdggcnaaGreatDoor
namespace Sx
open Go Go.RowKit
def Rd(P:aL)(w:an):Nat->aP->List aj->Prop
 |0,_,_=>True
 |d+1,t,cs=>
  match P.underlying t with
  |some .bool=>∃b,cs=[.bool b]
  |some (.int k)=>∃n,cs=[.int k n]/\k.min<=n/\n<=k.max
  |some (.slice e)=>cs=[.slice ag 0 0]\/∃a len cap,cs=[.slice (aa a) len cap]/\len<=cap/\cap<=maxLen/\∀i,i<cap->∃oW,w.cells? 0 (a.add (i*P.cellsOf e)) (P.cellsOf e)=aa oW/\Rd P w d e oW
  |some (.struct fs)=>cs.length=P.cellsOf t/\∀(i:Nat) f,fs[i]?=aa f->Rd P w d f.type ((cs.drop f.offset).take (P.cellsOf f.type))
  |some (.array n e)=>cs.length=P.cellsOf t/\∀i,i<n->Rd P w d e ((cs.drop (i*P.cellsOf e)).take (P.cellsOf e))
  |_=>True
section
variable{H:Type}{enc:aP×aj->H}{P:aL}{w:an}{held:Bool}
def Kq:∀(d:Nat){fuel:Nat}{t:aP}{cs:List aj}{x:DataW H×List MemPlace},Qg enc P w 0 (λ_=>af) held fuel t cs=aa x->Rd P w d t cs
 |0,_,_,_,_,_=>trivial
 |d+1,fuel,t,cs,x,h=>by
  unfold Rd;split
  ·rename_i hu;obtain⟨b,hb,_⟩:=DataW.trod_bool hu h;exact⟨b,hb⟩
  ·rename_i k hu;obtain⟨n,hn,_,hw⟩:=DataW.trod_int hu h;refine⟨n,hn,?_⟩;unfold Lit.wf at hw;simpa using hw
  ·rename_i e hu;rcases Deep.open_slice hu h with⟨h0,_⟩|⟨a,len,cap,m,n,D,Pl,hc,_,hl,hm,Hz,_,hx⟩
   ·exact .inl h0
   ·refine .inr ⟨a,len,cap,hc,hl,hm,λi hi=>?_⟩;obtain⟨oW,h1,h2⟩:=hx i (by rw[Hz];simpa using hi);exact⟨oW,h1,Kq d h2⟩
  ·rename_i fs hu;obtain⟨xs,n,_,_,hl,hs,hx⟩:=DataW.trod_struct hu h;refine⟨hl,λi f hf=>?_⟩;have h1:=hx i f hf;have hi:i<fs.size:=by
    rcases di i fs.size with h2|h2
    ·exact h2
    ·simp[h2]at hf
   rw[jh (by rw[hs];exact hi)]at h1;exact Kq d h1
  ·rename_i n e hu;obtain⟨xs,m,_,_,hl,hs,hx⟩:=DataW.trod_array hu h;refine⟨hl,λi hi=>?_⟩;have h1:=hx i hi;rw[jh (by rw[hs];exact hi)]at h1;exact Kq d h1
  ·trivial
def cellAt(P:aL):Nat->aP->Nat->Option aP
 |0,_,_=>ag
 |d+1,t,j=>
  match P.underlying t with
  |some (.struct fs)=>fs.toList.findSome? λf=>bif ck f.offset j&&dq j (f.offset+P.cellsOf f.type)then cellAt P d f.type (j-f.offset)else ag
  |some (.array n e)=>bif dq (j/P.cellsOf e) n&&dq 0 (P.cellsOf e)then cellAt P d e (j%P.cellsOf e)else ag
  |_=>bif aC j 0 then aa t else ag
def Kr:∀(d:Nat){t:aP}{cs:List aj}{j:Nat}{u:aP}{v:aj},(∀n,Rd P w n t cs)->cellAt P d t j=aa u->cs[j]?=aa v->∀n,Rd P w n u [v]
 |0,_,_,_,_,_,_,h,_=>by simp[cellAt]at h
 |d+1,t,cs,j,u,v,hr,h,hv=>by
  unfold cellAt at h;split at h
  ·rename_i fs hu;obtain⟨f,hf,h⟩:=List.exists_of_findSome?_eq_some h;obtain⟨i,hi⟩:=DP hf;have uB:fs[i]?=aa f:=by simpa using hi
   rw[ahh]at h;split at h
   ·rename_i hc;simp only[bJ]at hc;have h1:=eU hc.1;have h2:j<f.offset+P.cellsOf f.type:=by
     have:=hc.2;unfold dq at this;exact eU this
    refine Kr d (cs:=(cs.drop f.offset).take (P.cellsOf f.type)) (λn=>?_) h ?_
    ·have:=hr (n+1);unfold Rd at this;rw[hu]at this;exact this.2 i f uB
    ·rw[Ze oM,GC];rw[show f.offset+(j-f.offset)=j by omega];exact hv
   ·simp at h
  ·rename_i n0 e hu;rw[ahh]at h;split at h
   ·rename_i hc;simp only[bJ]at hc;have h1:j/P.cellsOf e<n0:=by
     have:=hc.1;unfold dq at this;exact eU this
    have h2:0<P.cellsOf e:=by
     have:=hc.2;unfold dq at this;exact eU this
    refine Kr d (cs:=(cs.drop (j/P.cellsOf e*P.cellsOf e)).take (P.cellsOf e)) (λn=>?_) h ?_
    ·have:=hr (n+1);unfold Rd at this;rw[hu]at this;exact this.2 _ h1
    ·rw[Ze (Nat.mod_lt _ h2),GC];rw[show j/P.cellsOf e*P.cellsOf e+j%P.cellsOf e=j by rw[Nat.mul_comm];exact Nat.div_add_mod _ _];exact hv
   ·simp at h
  ·rename_i hns hna;rw[ahh]at h;split at h
   ·rename_i hj;obtain rfl:j=0:=cw hj;obtain rfl:t=u:=by simpa using h
    intro n;have h1:=hr n;cases n with
    |zero=>trivial
    |succ n=>
     unfold Rd at h1⊢;split at h1
     ·obtain⟨b,rfl⟩:=h1;simp at hv;subst hv;exact⟨b,rfl⟩
     ·obtain⟨k,rfl,h2⟩:=h1;simp at hv;subst hv;exact⟨k,rfl,h2⟩
     ·rcases h1 with rfl|⟨a,len,cap,rfl,h2⟩
      ·simp at hv;subst hv;exact .inl rfl
      ·simp at hv;subst hv;exact .inr ⟨a,len,cap,rfl,h2⟩
     ·rename_i fs hu;exact absurd hu (hns fs)
     ·rename_i k e hu;exact absurd hu (hna k e)
     ·trivial
   ·simp at h
def axF{u:aP}{v:aj}(hu:P.underlying u=aa .bool)(h:∀n,Rd P w n u [v]):∃b,v=.bool b:=by
 have:=h 1;unfold Rd at this;rw[hu]at this;obtain⟨b,hb⟩:=this;exact⟨b,by simpa using hb⟩
def Yh{u:aP}{v:aj}{k:gw}(hu:P.underlying u=aa (.int k))(h:∀n,Rd P w n u [v]):∃n,v=.int k n/\k.min<=n/\n<=k.max:=by
 have:=h 1;unfold Rd at this;rw[hu]at this;obtain⟨b,hb,h2⟩:=this;exact⟨b,by simpa using hb,h2⟩
def Yi{u e:aP}{v:aj}{z:Nat}{ts:List aP}(hu:P.underlying u=aa (.slice e))(h:∀n,Rd P w n u [v])(hz:P.cellsOf e=z:=by kernel_rfl)(d:Nat)(dX:(bg z).map (cellAt P d e)=ts.map aa:=by kernel_rfl):
 v=.slice ag 0 0\/∃a len cap,v=.slice (aa a) len cap/\len<=cap/\cap<=maxLen/\∃c:Nat->Nat->aj,∀i,i<cap->∀j,j<z->w.cell? (a.add (i*z+j))=aa (c i j)/\∀u',ts[j]?=aa u'->∀n,Rd P w n u' [c i j]:=by
 have h1:=h 1;unfold Rd at h1;rw[hu]at h1;rcases h1 with h1|⟨a,len,cap,h1,h2,h3,_⟩
 ·exact .inl (by simpa using h1)
 ·obtain rfl:v=_:=by simpa using h1
  refine .inr ⟨a,len,cap,rfl,h2,h3,?_⟩;subst hz;have key:∀i,i<cap->∃oW,w.cells? 0 (a.add (i*P.cellsOf e)) (P.cellsOf e)=aa oW/\∀n,Rd P w n e oW:=by
   intro i hi;have aV:∀n,∃oW,w.cells? 0 (a.add (i*P.cellsOf e)) (P.cellsOf e)=aa oW/\Rd P w n e oW:=by
    intro n;have h4:=h (n+1);unfold Rd at h4;rw[hu]at h4;rcases h4 with h4|⟨a',aga,agb,h4,_,_,h5⟩
    ·simp at h4
    ·simp at h4;obtain⟨rfl,rfl,rfl⟩:=h4;exact h5 i hi
   obtain⟨oW,hc,_⟩:=aV 0;refine⟨oW,hc,λn=>?_⟩;obtain⟨axG,Ad,hr⟩:=aV n;rw[hc]at Ad;obtain rfl:oW=axG:=by simpa using Ad
   exact hr
  obtain⟨C,hC⟩:=Deep.choose_lt key;refine⟨λi j=>(C i).getD j undef,λi hi j hj=>?_⟩;obtain⟨h5,h6⟩:=hC i hi;obtain⟨_,hl,lJ⟩:=World.cells?_some h5;have h7:(C i)[j]?=aa ((C i).getD j undef):=by
   have dy:j<(C i).length:=oM;simp[gh,jh dy]
  refine⟨?_,λu' PI=>?_⟩
  ·have:=lJ j hj;rw[h7]at this;have e1:(a.add (i*P.cellsOf e)).add j=a.add (i*P.cellsOf e+j):=by
    unfold qo;split<;>split<;>split<;>simp_all<;>omega
   rw[e1]at this;exact this
  ·have hjt:cellAt P d e j=aa u':=by
    have h8:((bg (P.cellsOf e)).map (cellAt P d e))[j]?=aa (aa u'):=by rw[dX];simp[PI]
    simp[hj]at h8;exact h8
   exact Kr d h6 hjt h7
end
end Sx
namespace Sx
def St.Yj{w:an}{bs:List av}(h:∀y∈bs,y.wr=ah/\w.heap[y.id]?=aa y.obj):St [] w bs w:=by
 refine St.mk' (Ch.refl _ _) (λy hy=>(h y hy).2) (λy hy e=>by rw[(h y hy).1]at e;cases e) ?_;refine List.pairwise_of_forall_mem_list (λx hx y hy hc=>?_);rcases hc with hc|hc
 ·rw[(h x hx).1]at hc;cases hc
 ·rw[(h y hy).1]at hc;cases hc
end Sx
namespace Go.Proofs.YtddcipamdggcnaaGreatDoor
open Go Go.RowKit Go.BigFrame Go.WideShapes Sx Vx
def axH(u:an):∀y∈cA u,y.wr=ah/\u.heap[y.id]?=aa y.obj:=by
 intro y hy;unfold cA at hy;rw[oC]at hy;obtain⟨⟨o,i⟩,hp,rfl⟩:=hy;refine⟨rfl,?_⟩;rw[List.mk_mem_zipIdx_iff_getElem?]at hp;simpa using hp
def agc{cs:List aj}{off z:Nat}(g:Nat->List aj)(hz:∀j,(g j).length=z):∀n,(∀k,k<n->∀j,j<z->cs[off+k*z+j]?=(g k)[j]?)->cs.drop off=(bg n).flatMap g++cs.drop (off+n*z)
 |0,_=>sP
 |n+1,h=>by
  rw[agc g hz n (λk hk=>h k oM),vK,vL,bZ];congr 1;have e:(cs.drop (off+n*z)).take z=g n:=by
   apply zN;intro j;by_cases hj:j<z
   ·rw[Ze hj,GC];exact h n oM j hj
   ·rw[jA (by simp;omega),jA (by rw[hz];omega)]
  have e2:=jR z (cs.drop (off+n*z));rw[e,List.drop_drop]at e2;rw[List.flatMap_cons,List.flatMap_nil,cy,<-e2];congr 2;rw[oD];omega
structure Bi(W:an)(v:aj)(z:Nat)(g:Nat->List aj)(i o n c:Nat)(a:Option aF)(ty:BT)(aw a9:List aj):Prop where
 v:v=.slice (bif aC n 0 then a else aa ⟨i,o,ag⟩) n c
 le:n<=c
 po:∀j,j<n->o=aw.length
 at_:W.heap[i]?=aa (.cells (aw++((bg n).flatMap g++a9)).toArray ty.t ty.fz)
def Bi.nil{W:an}{z:Nat}{g:Nat->List aj}{cs:Array aj}{t:aP}{f:Nat×Nat}{i:Nat}(h:W.heap[i]?=aa (.cells cs t f)):Bi W (.slice ag 0 0) z g i 0 0 0 ag ⟨t,f⟩ [] cs.toList:=
 ⟨rfl,cW _,(λj hj=>absurd hj oM),by simpa using h⟩
def Bi.so{W:an}{z b o n c:Nat}{g:Nat->List aj}{cs:Array aj}{t:aP}{f:Nat×Nat}(hle:n<=c)(hz:∀j,(g j).length=z)(aV:W.heap[b]?=aa (.cells cs t f))(h:∀k,k<n->∀j,j<z->W.cell? ⟨b,o+k*z+j,ag⟩=(g k)[j]?)(hp:0<z):
 ∃aw a9,Bi W (.slice (aa ⟨b,o,ag⟩) n c) z g b o n c (aa ⟨b,o,ag⟩) ⟨t,f⟩ aw a9:=by
 have hc:∀k,k<n->∀j,j<z->cs.toList[o+k*z+j]?=(g k)[j]?:=λk hk j hj=>by
  have:=h k hk j hj;rw[cell_of aV]at this;simpa using this
 have hs:=agc g hz n hc;by_cases hn:n=0
 ·subst hn;exact⟨[],cs.toList,by cases aC 0 0<;>rfl,hle,(λj hj=>absurd hj oM),by simpa using aV⟩
 ·refine⟨cs.toList.take o,cs.toList.drop (o+n*z),by cases aC n 0<;>rfl,hle,λj hj=>?_,?_⟩
  ·have h0:=hc 0 oM 0 hp;have:o<cs.toList.length:=by
    rcases di o cs.toList.length with h1|h1
    ·exact h1
    ·exfalso;rw[jA oM]at h0;have h2:=hz 0;rw[jh oM]at h0;cases h0
   rw[w9];omega
  ·rw[<-hs,jR];exact aV
def axI{W:an}{tg tc:aP}(hG:W.heap[0]?=aa (.cells (aH .u32 64 c9) tg (0,0)))(hC:W.heap[1]?=aa (.cells #[.bool ah,.bool ah,.bool ah,.bool ah,.bool ah,.bool ah,.bool ah,.bool ah,.bool ah,.bool ah,.bool af,.bool af] tc (0,0))){i:Nat}{b:VB}(hw:b.wr=ah)(hc:bF 0 b.c=af)(aV:W.heap[i]?=aa (.cells (ao [] b.c).toArray b.ty.t b.ty.fz)){fr:aQ->Nat×az}:
 St [] W (lits [0,1,i] [0,1,i] [fO tg,Kk tc,b]++ax [LG.br (fr:=fr) W] []) W:=by
 refine St.Yj ?_;intro y hy;rcases dV.1 hy with hy|hy
 ·simp only[lits,cG,py,or_false]at hy;rcases hy with rfl|rfl|rfl
  ·exact⟨rfl,hG.trans kR⟩
  ·exact⟨rfl,hC.trans kR⟩
  ·rw[jL (ids':=[]) hc];exact⟨hw,aV⟩
 ·have:y∈cA W:=by
   rcases dV.1 (show y∈cA W++[]from hy)with h|h
   ·exact h
   ·cases h
  exact axH W y this
def axJ(i:Nat):Gl gS [0,1,i]:=by
 intro g j hg;unfold gS at hg;split at hg
 ·obtain rfl:=cP hg;exact⟨sP,rfl⟩
 ·obtain rfl:=cP hg;exact⟨sP,rfl⟩
 ·cases hg
end Go.Proofs.YtddcipamdggcnaaGreatDoor
namespace Go.Proofs.YtddcipamdggcnaaGreatDoor
section
open Go Go.RowKit Go.BigFrame Sx Go.ChangeShapes Go.WideShapes
section
variable{H:Type}{enc:aP×aj->H}{P:aL}{w:an}{base:Nat}{spare:Nat->Bool}{held:Bool}{fuel:Nat}{t e:aP}{cs:List aj}{ps:List MemPlace}
def agd{l:List aj}{i:Nat}{v:aj}(h:(l.drop i).take 1=[v]):l[i]?=aa v:=by
 have h1:((l.drop i).take 1)[0]?=aa v:=by rw[h];rfl
 rw[Qc]at h1;simpa using h1
def axK{k:gw}{zs:List Int}(ht:P.underlying t=aa (.array zs.length e))(he:P.underlying e=aa (.int k))(hc:P.cellsOf e=1)(hn:P.cellsOf t=zs.length)
 (h:Qg enc P w base spare held fuel t cs=aa (.agg (zs.map λz=>.lit (.int k z)),ps)):cs=zs.map (fI k):=by
 obtain⟨xs,m,rfl,hx,dl,xB,oQ⟩:=DataW.trod_array ht h;simp only[bI,DataW.agg.injEq]at hx;rw[hn]at dl;apply zN;intro i;by_cases hi:i<zs.length
 ·have h1:=oQ i hi;rw[hc,Nat.mul_one,jh oM]at h1;obtain⟨z,e1,e2,_⟩:=DataW.trod_int he h1;have h3:(zs.map λz=>(DataW.lit (.int k z):DataW H))[i]?=(xs.map (·.1))[i]?:=by rw[hx.1]
  rw[kA,kA,jh hi,jh oM,pk,pk,e2]at h3;simp at h3;rw[agd e1,kA,jh hi,pk,h3]
 ·rw[jA oM,jA (by simp;omega)]
def agf{n:String}{g:Nat}{c:Array aj}(hg:P.globalNamed n=aa g)(h:w.var? P n=aa c):∃t f,w.heap[g]?=aa (.cells c t f):=by
 simp only[World.var?,hg,Option.bind_some]at h;split at h
 ·next c' t f h2=>simp at h;subst h;exact⟨t,f,h2⟩
 ·cases h
end
def Ks:List Int:=(bg 64).map λi=>c9 i
def Yk:List (String×DataW Unit):=[("sidestick/gate.commands",Rows.laid_sidestick_gate_commands),("sidestick/sha.roots",ahi)]
def axL{W:an}(h:laidMetH du Yk W):∃t,W.heap[0]?=aa (.cells (aH .u32 64 c9) t (0,0)):=by
 rw[MakeChecks.laidMetH_plain _ _ _ kR]at h;obtain⟨ps,⟨g0,t0,Gp,f0,p0,q0,hg0,PJ,Gq,hd0,⟨g1,t1,PK,f1,p1,q1,OW,PL,vR,FN,_,hq⟩,rU⟩,_,lJ⟩:=h;obtain rfl:g1=0:=cP (OW.symm.trans (show du.globalNamed "sidestick/sha.roots" =aa 0 by kernel_rfl));have e1:(du.globals[0]?).map (·.type)=aa 193:=kR;obtain rfl:t1=193:=cP (PL.symm.trans e1);have qJ:PK.toList=Ks.map (fI .u32):=by
  have Iz:Qg (λ_=>()) du W 0 (λ_=>af) ah f1 193 PK.toList=aa (.agg (Ks.map λz=>.lit (.int .u32 z)),p1):=
   FN.trans (congrArg (λd=>aa (d,p1)) (show(ahi:DataW Unit)=.agg (Ks.map λz=>.lit (.int .u32 z)) by kernel_rfl))
  exact axK (k:=.u32) (zs:=Ks) (e:=152) kR kR kR kR Iz
 obtain⟨t,f,aV⟩:=agf (show du.globalNamed "sidestick/sha.roots" =aa 0 by kernel_rfl) vR;have LU:PK=aH .u32 64 c9:=by
  apply fP;rw[qJ];simp[Ks,aH]
 obtain⟨c,t',Bj⟩:=(lJ 0 0 (by
  rw[rU,hq,LU];have:MemPlace.cell 0 0∈Zi ⟨0,0,ag⟩ (aH .u32 64 c9).size:=by
   rw[G4];simp[Zi]
  simp[this])).1
 rw[aV]at Bj;simp only[a_,Obj.cells.injEq]at Bj;refine⟨t,?_⟩;rw[aV,LU,Bj.2.2]
end
end Go.Proofs.YtddcipamdggcnaaGreatDoor
namespace Sd
open Go Go.RowKit
noncomputable def over(w:an)(B:Nat)(u:an):an:=@ite _ (Below B w u) (Classical.propDecidable _) u w
def agh(w:an)(B:Nat)(u:an):Below B w (over w B u):=by
 unfold over;split
 ·assumption
 ·exact Below.refl _ _
@[go_sem] theorem aAk(w:World)(B:Nat)(u:World)(b o:Nat)(h:b<B):(over w B u).cell? ⟨b,o,none⟩=w.cell? ⟨b,o,none⟩:=(agh w B u).cell h
@[go_sem] theorem aAl(w:World)(B:Nat)(u:World)(b o:Nat)(h:b<B):(over w B u).frozen? ⟨b,o,none⟩=w.frozen? ⟨b,o,none⟩:=(agh w B u).frozen h
section
variable{P:aL}
end
def ba{w a:an}(h:Below w.heap.size w a)(o:Obj):Below w.heap.size w (a.alloc o):=h.alloc h.size o
def bs{w a:an}(h:Below w.heap.size w a){p:aF}(hp:w.heap.size<=p.block)(v:aj):Below w.heap.size w (a.setCell p v):=h.setCell hp v
def j_(d:TypeDesc):Bool:=match d with|.struct _|.array _ _=>af|_=>ah
structure agi(P:aL)(ty n:Nat):Prop where
 desc:∃d,P.underlying ty=aa d/\j_ d=af
 size:(P.info? ty).map (·.size)=aa n
def agi.load{P:aL}{ty n:Nat}(h:agi P ty n){w:an}{g:Nat}{t:aP}{cs:Array aj}{fr:Nat×Nat}(hg:w.heap[g]?=aa (.cells cs t fr))(hn:cs.size=n):
 (loadVar ty ⟨g,0,ag⟩).run P w=.ok (.agg cs) w:=by
 obtain⟨⟨d,hu,hd⟩,hs⟩:=h;exact run_loadVar_row w g t ty cs fr d hg hu (by cases d<;>first|rfl|simp[j_]at hd) (by rw[hs,hn])
section
variable{P:aL}{ops:Array aA}{rest:List aA}{o:aA}{a:Act}{w:an}{Q:dR->Act->an->Prop}
end
def Kt(n:Int):Prop:=-9223372036854775808<=n/\n<=9223372036854775807
def i64{n:Int}(h:dQ n):Kt n:=h
end Sd
namespace Sd
open Go Go.RowKit Go.ChangeShapes Go.WideShapes Go.ChangeAt
def agj{H:Type}{enc:aP×aj->H}{P:aL}(hl:laidOutB P=af){W W':an}(hb:Below W.heap.size W W'):
 ∀{ts:List aP}{vs:List aj}{ds:List (DataW H)}{ps:List MemPlace},(ts.all λt=>P.readableRec t&&decide (t<P.types.size))=af->
  DataW.TrodAll enc P W 0 (λ_=>af) af ts vs ds ps->(∀p∈ps,p.block<W.heap.size)->DataW.TrodAll enc P W' 0 (λb=>decide (b<W.heap.size)) af ts vs ds ps
 |[],[],[],_,_,h,_=>h
 |t::ts,v::vs,d::ds,ps,hr,h,hp=>by
  obtain⟨p,q,h1,h2,rfl⟩:=h;simp only[List.all_cons,bJ,decide_eq_true_eq]at hr;exact⟨p,q,Below.trod hl hr.1.1 hr.1.2 h1 hb (λx hx=>hp x (kB _ hx)),agj hl hb hr.2 h2 (λx hx=>hp x (oF _ hx)),rfl⟩
 |[],[],_::_,_,_,h,_=>h.elim
 |[],_::_,_,_,_,h,_=>h.elim
 |_::_,[],_,_,_,h,_=>h.elim
 |_::_,_::_,[],_,_,h,_=>h.elim
def axM{H:Type}{enc:aP×aj->H}{P:aL}{f:Func}{s:ChangeSpec}{W W':an}{ak:Array aj}{ds gs:List (DataW H)}{before:List MemPlace}{tb:aP}
 (hl:laidOutB P=af) (hr:(f.params.toList.all λt=>P.readableRec t&&decide (t<P.types.size))=af) (agk:s.vars=[]) (Jv:f.resultTypes=#[tb]) (WB:P.underlying tb=aa .bool)
 (hs:s.fn H (ds++gs)={results:=[.lit (.bool af)],args:=ds,vars:=[]}) (hW:DataW.Whole enc P f.params.toList s.vars ah W ak.toList ds gs before) (hb:Below W.heap.size W W'):
 s.post enc P f ah af ah ah W ak (.bool af) W':=by
 have hW0:=hW;have dy:=λp hp=>hW.lt p hp;obtain⟨p,q,hA,hV,rfl,hz,hn⟩:=hW;rw[agk]at hV;obtain⟨rfl,rfl⟩:=trodVars_none hV;refine⟨ds,[],p++[],[],p,[],hW0,?_,?_,?_,?_,λh=>by cases h⟩
 ·rw[hs,Jv];exact trodAll_mk1 (shut_bool WB _)
 ·rw[hs];exact agj hl hb hr hA (λx hx=>dy x (by simpa using hx))
 ·rw[hs,agk];exact rfl
 ·exact hb.frame _
section
variable{P:aL}{w:an}{r:Reach}{b0:Nat}{t:aP}{v:aj}
def axN{d:TypeDesc}{ts:List aP}(hu:P.underlying t=aa d)(hd:j_ d=af)(hct:P.cellTypes P.depth t=aa ts)(hn:P.cellsOf t=ts.length)(hv:DX P w r b0 t v):
 ∃cs:Array aj,v=.agg cs/\cs.size=ts.length/\∀(i:Nat) x u,cs[i]?=aa x->ts[i]?=aa u->DY P w r b0 u x:=by
 have h:∃cs,v=.agg cs/\cs.size=P.cellsOf t/\Row.okWide P w r b0 t cs:=by
  unfold DX at hv;rw[hu]at hv;cases d<;>first|exact hv|simp[j_]at hd
 obtain⟨cs,rfl,dr,DK,h1,_,h2⟩:=h;rw[hct]at h1;obtain rfl:ts=DK:=by simpa using h1
 refine⟨cs,rfl,dr.trans hn,?_⟩;intro i x u hx PI;obtain⟨u',h3,h4⟩:=h2 i x hx;have hi:i<ts.length:=by
  rcases di i ts.length with h|h
  ·exact h
  ·simp[h]at PI
 rw[Nat.mod_eq_of_lt hi,PI]at h3;obtain rfl:u=u':=by simpa using h3
 exact h4
def agl{d:TypeDesc}(hu:P.underlying t=aa d)(hd:j_ d=ah)(hv:DX P w r b0 t v):DY P w r b0 t v:=by
 unfold DX at hv;rw[hu]at hv;cases d<;>first|exact hv|simp[j_]at hd
def agm{k:gw}(hu:P.underlying t=aa (.int k))(h:DY P w r b0 t v):∃n,v=.int k n/\k.min<=n/\n<=k.max:=by
 unfold DY at h;rw[hu]at h;unfold Cell.ok at h;rw[hu]at h;cases v<;>simp at h;obtain⟨rfl,h1,h2⟩:=h;exact⟨_,rfl,h1,h2⟩
def axO(hu:P.underlying t=aa (.int .i64))(h:DY P w r b0 t v):∃n,v=.int .i64 n/\Kt n:=by
 obtain⟨n,h1,h2,h3⟩:=agm hu h;exact⟨n,h1,by unfold Kt;simpa[IntKind.min,IntKind.max,te,td]using And.intro h2 h3⟩
end
end Sd
namespace Go.Proofs.YtddcipamdggcnaaGreatDoor
section
open Go Go.RowKit Go.WideShapes Sd
def PM(W:an)(a:Option aF)(n c:Nat):Prop:=n<=c/\((a=ag/\n=0/\c=0)\/∃x,a=aa x/\(c:Int)<=i64.max/\W.has du .any 0 x 5 c)
def Yl{W:an}{v:aj}{t e:aP}(hu:du.underlying t=aa (.slice e))(h:DY du W .any 0 t v):
 ∃a n c,v=.slice a n c/\n<=c/\((a=ag/\n=0/\c=0)\/∃x,a=aa x/\(c:Int)<=i64.max/\W.has du .any 0 x e c):=by
 unfold DY at h;rw[hu]at h;cases v with
 |slice a n c=>
  unfold Cell.ok at h;rw[hu]at h;cases a with
  |none=>
   cases n<;>cases c<;>first|exact⟨_,_,_,rfl,oM,Or.inl ⟨rfl,rfl,rfl⟩⟩|(simp at h)
  |some a=>exact⟨_,_,_,rfl,h.1,Or.inr ⟨a,rfl,h.2⟩⟩
 |_=>unfold Cell.ok at h;rw[hu]at h;simp at h
def axP{W:an}{v:aj}(hv:DX du W .any 0 28 v):
 ∃(q:Nat->Int)(ka:Nat->Option aF)(kn kc:Nat->Nat),v=.agg (CN q ka kn kc)/\(∀i,-9223372036854775808<=q i/\q i<=9223372036854775807)/\∀i,i<4->PM W (ka i) (kn i) (kc i):=by
 obtain⟨cs,rfl,dr,qJ⟩:=axN Tryz.underlying28 rfl (ts:=[3,3,3,3,3,23,23,23,23,3,3,3,3,3,3,3,3,3,3,3,3,3,3,3,3,3,3,3,3,3,3,3,3,3,3,3,3,3,3,3,3,3,3,3,3,3,3,3,3,3,3,3,3,3,3,3]) kR kR hv;have aV:∀i,i<56->∃x,cs[i]?=aa x:=λi hi=>⟨cs[i]'(by rw[dr];exact hi),by rw[K4]⟩;have hI:∀i,i<56->(i<5\/8<i)->∃n,cs[i]?=aa (.int .i64 n)/\Kt n:=by
  intro i hi c_;obtain⟨x,hx⟩:=aV i hi;have ht:([3,3,3,3,3,23,23,23,23,3,3,3,3,3,3,3,3,3,3,3,3,3,3,3,3,3,3,3,3,3,3,3,3,3,3,3,3,3,3,3,3,3,3,3,3,3,3,3,3,3,3,3,3,3,3,3]:List Nat)[i]?=aa 3:=by clear hx;revert i;decide
  obtain⟨n,rfl,hn⟩:=axO Tryz.underlying3 (qJ i x 3 hx ht);exact⟨n,hx,hn⟩
 have hS:∀i,i<4->∃a n c,cs[5+i]?=aa (.slice a n c)/\PM W a n c:=by
  intro i hi;obtain⟨x,hx⟩:=aV (5+i) oM;have ht:([3,3,3,3,3,23,23,23,23,3,3,3,3,3,3,3,3,3,3,3,3,3,3,3,3,3,3,3,3,3,3,3,3,3,3,3,3,3,3,3,3,3,3,3,3,3,3,3,3,3,3,3,3,3,3,3]:List Nat)[5+i]?=aa 23:=by clear hx;revert i;decide
  obtain⟨a,n,c,rfl,h1,h2⟩:=Yl Tryz.underlying23 (qJ (5+i) x 23 hx ht);exact⟨a,n,c,hx,h1,h2⟩
 let q:Nat->Int:=λi=>match cs[i]?with|some (.int _ n)=>n|_=>0
 let ka:Nat->Option aF:=λi=>match cs[5+i]?with|some (.slice a _ _)=>a|_=>ag
 let kn:Nat->Nat:=λi=>match cs[5+i]?with|some (.slice _ n _)=>n|_=>0
 let kc:Nat->Nat:=λi=>match cs[5+i]?with|some (.slice _ _ c)=>c|_=>0
 have hq:∀i,i<56->(i<5\/8<i)->cs[i]?=aa (.int .i64 (q i))/\Kt (q i):=by
  intro i hi c_;obtain⟨n,hx,hn⟩:=hI i hi c_;have:q i=n:=by simp only[q,hx]
  rw[this];exact⟨hx,hn⟩
 have hk:∀i,i<4->cs[5+i]?=aa (.slice (ka i) (kn i) (kc i))/\PM W (ka i) (kn i) (kc i):=by
  intro i hi;obtain⟨a,n,c,hx,hn⟩:=hS i hi;have h1:ka i=a:=by simp only[ka,hx]
  have h2:kn i=n:=by simp only[kn,hx]
  have h3:kc i=c:=by simp only[kc,hx]
  rw[h1,h2,h3];exact⟨hx,hn⟩
 refine⟨q,ka,kn,kc,?_,?_,λi hi=>(hk i hi).2⟩
 ·congr 1;apply Array.ext_getElem?;intro i;by_cases hi:i<56
  ·match i,hi with
   |0,_=>exact(hq 0 oM oM).1.trans rfl
   |1,_=>exact(hq 1 oM oM).1.trans rfl
   |2,_=>exact(hq 2 oM oM).1.trans rfl
   |3,_=>exact(hq 3 oM oM).1.trans rfl
   |4,_=>exact(hq 4 oM oM).1.trans rfl
   |5,_=>exact(hk 0 oM).1.trans rfl
   |6,_=>exact(hk 1 oM).1.trans rfl
   |7,_=>exact(hk 2 oM).1.trans rfl
   |8,_=>exact(hk 3 oM).1.trans rfl
   |9,_=>exact(hq 9 oM oM).1.trans rfl
   |10,_=>exact(hq 10 oM oM).1.trans rfl
   |11,_=>exact(hq 11 oM oM).1.trans rfl
   |12,_=>exact(hq 12 oM oM).1.trans rfl
   |13,_=>exact(hq 13 oM oM).1.trans rfl
   |14,_=>exact(hq 14 oM oM).1.trans rfl
   |15,_=>exact(hq 15 oM oM).1.trans rfl
   |16,_=>exact(hq 16 oM oM).1.trans rfl
   |17,_=>exact(hq 17 oM oM).1.trans rfl
   |18,_=>exact(hq 18 oM oM).1.trans rfl
   |19,_=>exact(hq 19 oM oM).1.trans rfl
   |20,_=>exact(hq 20 oM oM).1.trans rfl
   |21,_=>exact(hq 21 oM oM).1.trans rfl
   |22,_=>exact(hq 22 oM oM).1.trans rfl
   |23,_=>exact(hq 23 oM oM).1.trans rfl
   |24,_=>exact(hq 24 oM oM).1.trans rfl
   |25,_=>exact(hq 25 oM oM).1.trans rfl
   |26,_=>exact(hq 26 oM oM).1.trans rfl
   |27,_=>exact(hq 27 oM oM).1.trans rfl
   |28,_=>exact(hq 28 oM oM).1.trans rfl
   |29,_=>exact(hq 29 oM oM).1.trans rfl
   |30,_=>exact(hq 30 oM oM).1.trans rfl
   |31,_=>exact(hq 31 oM oM).1.trans rfl
   |32,_=>exact(hq 32 oM oM).1.trans rfl
   |33,_=>exact(hq 33 oM oM).1.trans rfl
   |34,_=>exact(hq 34 oM oM).1.trans rfl
   |35,_=>exact(hq 35 oM oM).1.trans rfl
   |36,_=>exact(hq 36 oM oM).1.trans rfl
   |37,_=>exact(hq 37 oM oM).1.trans rfl
   |38,_=>exact(hq 38 oM oM).1.trans rfl
   |39,_=>exact(hq 39 oM oM).1.trans rfl
   |40,_=>exact(hq 40 oM oM).1.trans rfl
   |41,_=>exact(hq 41 oM oM).1.trans rfl
   |42,_=>exact(hq 42 oM oM).1.trans rfl
   |43,_=>exact(hq 43 oM oM).1.trans rfl
   |44,_=>exact(hq 44 oM oM).1.trans rfl
   |45,_=>exact(hq 45 oM oM).1.trans rfl
   |46,_=>exact(hq 46 oM oM).1.trans rfl
   |47,_=>exact(hq 47 oM oM).1.trans rfl
   |48,_=>exact(hq 48 oM oM).1.trans rfl
   |49,_=>exact(hq 49 oM oM).1.trans rfl
   |50,_=>exact(hq 50 oM oM).1.trans rfl
   |51,_=>exact(hq 51 oM oM).1.trans rfl
   |52,_=>exact(hq 52 oM oM).1.trans rfl
   |53,_=>exact(hq 53 oM oM).1.trans rfl
   |54,_=>exact(hq 54 oM oM).1.trans rfl
   |55,_=>exact(hq 55 oM oM).1.trans rfl
   |i+56,h=>exact absurd h oM
  ·rw[KW (by rw[dr];exact Zc hi),KW (Zc hi)]
 ·intro i;by_cases hi:i<56/\(i<5\/8<i)
  ·exact(hq i hi.1 hi.2).2
  ·have:q i=0:=by
    by_cases h5:i<56
    ·obtain⟨a,n,c,hx,_⟩:=hS (i-5) oM;rw[show 5+(i-5)=i by omega]at hx;simp only[q,hx]
    ·have hx:cs[i]?=ag:=KW (by rw[dr];exact Zc h5);simp only[q,hx]
   rw[this];omega
end
section
open Go Go.RowKit Go.WideShapes Sd Sx
def axQ{W:an}{a:Option aF}{m c:Nat}(lJ:∀n,Rd du W n 23 [.slice a m c])(hk:PM W a m c):∃kb:Nat->Int,V6 [] W a m c kb:=by
 obtain⟨h1,h2⟩:=hk;rcases h2 with⟨e1,e2,e3⟩|⟨x,e1,hc,hh⟩
 ·exact⟨λ_=>0,h1,λ_=>⟨e2,e3⟩,λad ha=>by rw[e1]at ha;cases ha⟩
 ·rcases Yi Tryz.underlying23 lJ (z:=1) kR 5 (ts:=[5]) kR with h0|⟨a',aga,agb,h0,_,_,C,hC⟩
  ·rw[e1]at h0;simp at h0
  ·rw[e1]at h0;simp only[Zj,a_]at h0;obtain⟨rfl,rfl,rfl⟩:=h0;refine⟨λj=>match C j 0 with|.int _ n=>n|_=>0,h1,λh=>(by rw[e1]at h;cases h),λad ha=>⟨sP,λj hj=>?_⟩⟩;rw[e1]at ha;obtain rfl:=cP ha;obtain⟨h3,h4⟩:=hC j oM 0 oM;obtain⟨n,h5,_⟩:=Yh Tryz.underlying5 (h4 _ rfl);simp only[h5]at h3⊢;simpa using h3
def axR{W:an}{v:aj}(hv:DX du W .any 0 28 v)(hr:∀n,Rd du W n 28 v.cells.toList):
 ∃(q:Nat->Int)(ka:Nat->Option aF)(kn kc:Nat->Nat)(kb:Nat->Nat->Int),v=.agg (CN q ka kn kc)/\(∀i,-9223372036854775808<=q i/\q i<=9223372036854775807)/\∀i,i<4->V6 [] W (ka i) (kn i) (kc i) (kb i):=by
 obtain⟨q,ka,kn,kc,rfl,hq,hk⟩:=axP hv;have key:∀i,i<4->∃kb:Nat->Int,V6 [] W (ka i) (kn i) (kc i) kb:=by
  intro i hi;have lJ:∀n,Rd du W n 23 [.slice (ka i) (kn i) (kc i)]:=by
   have h5:(CN q ka kn kc)[5+i]?=aa (.slice (ka i) (kn i) (kc i)):=by
    match i,hi with
    |0,_=>rfl
    |1,_=>rfl
    |2,_=>rfl
    |3,_=>rfl
    |i+4,h=>exact absurd h oM
   have pG:cellAt du 6 28 (5+i)=aa 23:=by
    have e:i=0\/i=1\/i=2\/i=3:=oM;rcases e with rfl|rfl|rfl|rfl
    ·show cellAt du 6 28 5=aa 23;kernel_rfl
    ·show cellAt du 6 28 6=aa 23;kernel_rfl
    ·show cellAt du 6 28 7=aa 23;kernel_rfl
    ·show cellAt du 6 28 8=aa 23;kernel_rfl
   exact Kr 6 (P:=du) (w:=W) (t:=28) (cs:=(CN q ka kn kc).toList) (j:=5+i) hr pG (by simpa using h5)
  exact axQ lJ (hk i hi)
 obtain⟨kb,hkb⟩:=Deep.choose_lt key;exact⟨q,ka,kn,kc,kb,rfl,hq,hkb⟩
end
section
open Go Go.RowKit Go.BigFrame Go.WideShapes Go.ChangeShapes Sd Sx Vx
section
variable{H:Type}{enc:aP×aj->H}{P:aL}{w:an}{base:Nat}{spare:Nat->Bool}{held:Bool}{fuel:Nat}{t e:aP}{cs:List aj}{ps:List MemPlace}
def axS{zs:List Bool}(ht:P.underlying t=aa (.array zs.length e))(he:P.underlying e=aa .bool)(hc:P.cellsOf e=1)(hn:P.cellsOf t=zs.length)
 (h:Qg enc P w base spare held fuel t cs=aa (.agg (zs.map λz=>.lit (.bool z)),ps)):cs=zs.map K8:=by
 obtain⟨xs,m,rfl,hx,dl,xB,oQ⟩:=DataW.trod_array ht h;simp only[bI,DataW.agg.injEq]at hx;rw[hn]at dl;apply zN;intro i;by_cases hi:i<zs.length
 ·have h1:=oQ i hi;rw[hc,Nat.mul_one,jh oM]at h1;obtain⟨z,e1,e2⟩:=DataW.trod_bool he h1;have h3:(zs.map λz=>(DataW.lit (.bool z):DataW H))[i]?=(xs.map (·.1))[i]?:=by rw[hx.1]
  rw[kA,kA,jh hi,jh oM,pk,pk]at h3;have e3:=congrArg Prod.fst e2;rw[e3]at h3;simp at h3;rw[agd e1,kA,jh hi,pk,h3]
 ·rw[jA oM,jA (by simp;omega)]
end
def PN:List Bool:=[ah,ah,ah,ah,ah,ah,ah,ah,ah,ah,af,af]
def axT{W:an}(h:laidMetH du Yk W):∃t,W.heap[1]?=aa (.cells #[.bool ah,.bool ah,.bool ah,.bool ah,.bool ah,.bool ah,.bool ah,.bool ah,.bool ah,.bool ah,.bool af,.bool af] t (0,0)):=by
 rw[MakeChecks.laidMetH_plain _ _ _ kR]at h;obtain⟨ps,⟨g0,t0,Gp,f0,p0,q0,hg0,PJ,Gq,hd0,⟨g1,t1,PK,f1,p1,q1,OW,PL,vR,FN,_,hq⟩,rU⟩,_,lJ⟩:=h;obtain rfl:g0=1:=cP (hg0.symm.trans (show du.globalNamed "sidestick/gate.commands" =aa 1 by kernel_rfl));have e1:(du.globals[1]?).map (·.type)=aa 285:=kR;obtain rfl:t0=285:=cP (PJ.symm.trans e1);have qJ:Gp.toList=PN.map K8:=by
  have Iz:Qg (λ_=>()) du W 0 (λ_=>af) ah f0 285 Gp.toList=aa (.agg (PN.map λz=>.lit (.bool z)),p0):=
   hd0.trans (congrArg (λd=>aa (d,p0)) (show(Rows.laid_sidestick_gate_commands:DataW Unit)=.agg (PN.map λz=>.lit (.bool z)) by kernel_rfl))
  exact axS (zs:=PN) (e:=4) kR kR kR kR Iz
 obtain⟨t,f,aV⟩:=agf (show du.globalNamed "sidestick/gate.commands" =aa 1 by kernel_rfl) Gq;have xH:Gp=#[.bool ah,.bool ah,.bool ah,.bool ah,.bool ah,.bool ah,.bool ah,.bool ah,.bool ah,.bool ah,.bool af,.bool af]:=by
  apply fP;rw[qJ];rfl
 obtain⟨c,t',Bj⟩:=(lJ 1 0 (by
  rw[rU,xH];have:MemPlace.cell 1 0∈Zi ⟨1,0,ag⟩ 12:=by
   simp[Zi]
  exact kB _ (kB _ this))).1
 rw[aV]at Bj;simp only[a_,Obj.cells.injEq]at Bj;refine⟨t,?_⟩;rw[aV,xH,Bj.2.2]
def agn{W:an}{v:aj}(h:∀n,Rd du W n 23 [v]):∃a n c,v=.slice a n c/\jx W a n c (dP W a):=by
 rcases Yi Tryz.underlying23 h (z:=1) kR 5 (ts:=[5]) kR with rfl|⟨a,len,cap,rfl,hle,_,C,hC⟩
 ·exact⟨ag,0,0,rfl,cW _,λ_=>⟨rfl,rfl⟩,λx e=>nomatch e⟩
 ·have hb:∀j,j<len->∃n,C j 0=.int .u8 n/\0<=n/\n<=255:=λj hj=>by
   obtain⟨n,h5,h6⟩:=Yh Tryz.underlying5 ((hC j oM 0 oM).2 _ rfl);exact⟨n,h5,by simpa[IntKind.min,IntKind.max,te,td]using h6⟩
  refine⟨aa a,len,cap,rfl,auP (f:=λj=>match C j 0 with|.int _ n=>n|_=>0) ⟨hle,(λe=>nomatch e),λx e j hj=>?_⟩ λj hj=>?_⟩
  ·obtain rfl:=cP e;obtain⟨n,h5,_⟩:=hb j hj;have h3:=(hC j oM 0 oM).1;simp only[h5]at h3⊢;simpa using h3
  ·obtain⟨n,h5,h6⟩:=hb j hj;simp only[h5];exact h6
def axU{W:an}{v:aj}(hv:DX du W .any 0 28 v)(hr:∀n,Rd du W n 28 v.cells.toList):
 ∃(q:Nat->Int)(ka:Nat->Option aF)(kn kc:Nat->Nat),v=.agg (tK ⟨q,λ_=>(0,λ_=>0)⟩ ka kn kc).toArray/\∀j,j<4->jx W (ka j) (kn j) (kc j) (dP W (ka j)):=by
 obtain⟨q,ka,kn,kc,kb,rfl,hq,hk⟩:=axR hv hr;refine⟨q,ka,kn,kc,rfl,λj hj=>?_⟩;have lJ:∀n,Rd du W n 23 [.slice (ka j) (kn j) (kc j)]:=by
  have h5:(CN q ka kn kc)[5+j]?=aa (.slice (ka j) (kn j) (kc j)):=by
   match j,hj with
   |0,_=>rfl
   |1,_=>rfl
   |2,_=>rfl
   |3,_=>rfl
   |j+4,h=>exact absurd h oM
  have pG:cellAt du 6 28 (5+j)=aa 23:=by
   have e:j=0\/j=1\/j=2\/j=3:=oM;rcases e with rfl|rfl|rfl|rfl
   ·show cellAt du 6 28 5=aa 23;kernel_rfl
   ·show cellAt du 6 28 6=aa 23;kernel_rfl
   ·show cellAt du 6 28 7=aa 23;kernel_rfl
   ·show cellAt du 6 28 8=aa 23;kernel_rfl
  exact Kr 6 (P:=du) (w:=W) (t:=28) (cs:=(CN q ka kn kc).toList) (j:=5+j) hr pG (by simpa using h5)
 obtain⟨a,n,c,e,h⟩:=agn lJ;simp only[Zj]at e;obtain⟨rfl,rfl,rfl⟩:=e;exact h
def axV{W:an}{v:aj}(lJ:DY du W .any 0 29 v)(zE:∀k,Rd du W k 29 [v]){b0:Nat}{Gp:Array aj}{t0:aP}{f0:Nat×Nat}(h0:W.heap[b0]?=aa (.cells Gp t0 f0)):
 ∃(es:Nat->eT)(i o n c:Nat)(a:Option aF)(ty:BT)(aw a9:List aj),Bi W v 10 (kz es) i o n c a ty aw a9/\(∀j,j<n->jx W (es j).x (es j).n (es j).c (dP W (es j).x))/\∀j,kx (es j).s.x:=by
 have z4:kx ⟨0,0,0,0⟩:=Sd.FQ
 let od:eT:=⟨0,0,ag,0,0,⟨ah,⟨0,0,0,0⟩,ah⟩,ah⟩
 obtain⟨a,m,c,rfl,hmc,ho⟩:=Yl Tryz.underlying29 lJ;rcases ho with⟨rfl,rfl,rfl⟩|⟨x,rfl,aAm,ago⟩
 ·exact⟨λ_=>od,b0,0,0,0,ag,_,[],_,Bi.nil h0,λj hj=>absurd hj oM,λ_=>z4⟩
 obtain⟨bk,off,spot⟩:=x;obtain rfl:spot=ag:=ago.2.1;obtain⟨row,cells,Ym,_⟩:=ago.2.2;have axW:∃cs t f,W.heap[bk]?=aa (.cells cs t f):=by
  unfold World.shape? at Ym;split at Ym
  ·rename_i cs t f hh;exact⟨cs,t,f,hh⟩
  ·cases Ym
 obtain⟨cs,t,f,aV⟩:=axW;rcases Yi Tryz.underlying29 zE (z:=10) rfl 5 (ts:=[3,3,23,4,3,3,3,3,4,4])with PO|⟨a',aga,agb,PO,_,_,C,hC⟩
 ·simp at PO
 simp only[Zj,a_]at PO;obtain⟨rfl,rfl,rfl⟩:=PO
 let num:aj->Int:=λv=>match v with|.int _ n=>n|_=>0
 let tv:aj->Bool:=λv=>match v with|.bool b=>b|_=>ah
 let sa:aj->Option aF:=λv=>match v with|.slice a _ _=>a|_=>ag
 let sn:aj->Nat:=λv=>match v with|.slice _ n _=>n|_=>0
 let sc:aj->Nat:=λv=>match v with|.slice _ _ c=>c|_=>0
 have hB:∀k,k<c->C k 2=.slice (sa (C k 2)) (sn (C k 2)) (sc (C k 2))/\jx W (sa (C k 2)) (sn (C k 2)) (sc (C k 2)) (dP W (sa (C k 2))):=λk hk=>by
  obtain⟨a,n,c',e,h⟩:=agn ((hC k hk 2 oM).2 _ rfl);rw[e];exact⟨rfl,h⟩
 have hI:∀k,k<c->∀j,(j=0\/j=1\/j=4\/j=5\/j=6\/j=7)->C k j=.int .i64 (num (C k j))/\Sd.Bd (num (C k j)):=λk hk j hj=>by
  have ht:([3,3,23,4,3,3,3,3,4,4]:List Nat)[j]?=aa 3:=by
   rcases hj with rfl|rfl|rfl|rfl|rfl|rfl<;>rfl
  obtain⟨n,h1,h2⟩:=Yh Tryz.underlying3 ((hC k hk j oM).2 _ ht);rw[h1];have h3:-9223372036854775808<=n/\n<=9223372036854775807:=by simpa[IntKind.min,IntKind.max,te,td]using h2
  exact⟨rfl,h3⟩
 have hT:∀k,k<c->∀j,(j=3\/j=8\/j=9)->C k j=.bool (tv (C k j)):=λk hk j hj=>by
  have ht:([3,3,23,4,3,3,3,3,4,4]:List Nat)[j]?=aa 4:=by
   rcases hj with rfl|rfl|rfl<;>rfl
  obtain⟨n,h1⟩:=axF Tryz.underlying4 ((hC k hk j oM).2 _ ht);rw[h1]
 let es:Nat->eT:=λk=>if k<c then⟨num (C k 0),num (C k 1),sa (C k 2),sn (C k 2),sc (C k 2),⟨tv (C k 3),⟨num (C k 4),num (C k 5),num (C k 6),num (C k 7)⟩,tv (C k 8)⟩,tv (C k 9)⟩else od
 have gV:∀k,k<c->es k=⟨num (C k 0),num (C k 1),sa (C k 2),sn (C k 2),sc (C k 2),⟨tv (C k 3),⟨num (C k 4),num (C k 5),num (C k 6),num (C k 7)⟩,tv (C k 8)⟩,tv (C k 9)⟩:=λk hk=>if_pos hk;have BH:∀q:Nat,(⟨bk,off,ag⟩:aF).add q=⟨bk,off+q,ag⟩:=λq=>by
  by_cases hq:q=0
  ·subst hq;rfl
  ·simp[qo,hq]
 have pG:∀k,k<m->∀j,j<10->W.cell? ⟨bk,off+k*10+j,ag⟩=(kz es k)[j]?:=by
  intro k hk j hj;have m7:k<c:=oM;have h1:W.cell? ⟨bk,off+k*10+j,ag⟩=aa (C k j):=by
   have:=(hC k m7 j hj).1;rw[BH]at this;rw[ux];exact this
  rw[h1];have e:kz es k=[.int .i64 (num (C k 0)),.int .i64 (num (C k 1)),.slice (sa (C k 2)) (sn (C k 2)) (sc (C k 2)),.bool (tv (C k 3)),.int .i64 (num (C k 4)),.int .i64 (num (C k 5)),.int .i64 (num (C k 6)),.int .i64 (num (C k 7)),.bool (tv (C k 8)),.bool (tv (C k 9))]:=by
   unfold kz;rw[gV k m7];rfl
  rw[e]
  match j,hj with
  |0,_=>rw[(hI k m7 0 oM).1];rfl
  |1,_=>rw[(hI k m7 1 oM).1];rfl
  |2,_=>rw[(hB k m7).1];rfl
  |3,_=>rw[hT k m7 3 oM];rfl
  |4,_=>rw[(hI k m7 4 oM).1];rfl
  |5,_=>rw[(hI k m7 5 oM).1];rfl
  |6,_=>rw[(hI k m7 6 oM).1];rfl
  |7,_=>rw[(hI k m7 7 oM).1];rfl
  |8,_=>rw[hT k m7 8 oM];rfl
  |9,_=>rw[hT k m7 9 oM];rfl
  |j+10,h=>omega
 obtain⟨aw,a9,hR⟩:=Bi.so (z:=10) (g:=kz es) hmc (λj=>aw0 es j) aV pG dC;refine⟨es,bk,off,m,c,_,_,aw,a9,hR,λj hj=>?_,λj=>?_⟩
 ·rw[gV j oM];exact(hB j oM).2
 ·by_cases hj:j<c
  ·rw[gV j hj];exact⟨(hI j hj 4 oM).2,(hI j hj 5 oM).2,(hI j hj 6 oM).2,(hI j hj 7 oM).2⟩
  ·have:es j=od:=if_neg hj;rw[this];exact z4
end
section
variable{fr:aQ->Nat×az}
def s7:VB:=⟨af,⟨133,(0,0)⟩,[.raw (.slice ag 0 0)]⟩
def ew.new(a:Nat->Nat):ew:=⟨a,λ_=>dD.nil⟩
def agp(bl:List VB)(K:VK (LG fr)):VK (LG fr):=λv b c=>match v,c with
 |.ptr i 0,.br u::.core g fB::rest=>(match b.drop bl.length with
  |[⟨af,⟨90,(0,0)⟩,[.ptr ic 0,.int .i64 (.ofNat 0),.ptr a0 0,.ptr a1 0,.ptr a2 0]⟩,⟨af,⟨131,(0,0)⟩,cc⟩,⟨af,⟨133,(0,0)⟩,[.raw (.slice ag 0 0)]⟩,⟨af,⟨133,(0,0)⟩,[.raw (.slice ag 0 0)]⟩,⟨af,⟨133,(0,0)⟩,[.raw (.slice ag 0 0)]⟩,⟨af,⟨181,(0,0)⟩,tc⟩]=>(match CT cc,tZ tc with
   |some x,aa y=>cond (aC i bl.length&&(aC ic (bl.length+1)&&(aC a0 (bl.length+2)&&(aC a1 (bl.length+3)&&(aC a2 (bl.length+4)&&(aC x.it (bl.length+5)&&bY bl.length bl))))))
    ((b.take bl.length=bl/\x=nr g.d.k x.it (gG x y g.d g.dx g.sx)/\y.b=x.p.da/\y.m=x.p.jk)/\∀(ic it:Nat)(a:Nat->Nat),K (.ptr bl.length 0) (bl++[eY.R ⟨g.d.k,gG x y g.d g.dx g.sx,g.F,fB,.new a,ic,it⟩]) (.br u::.gu ⟨g.d.k,gG x y g.d g.dx g.sx,g.F,fB,.new a,ic,it⟩::rest)) False
   |_,_=>False)
  |_=>False)
 |_,_=>False
def Ku{G:Type}:dm G:=λak bl ch K=>match ak with
 |[]=>cond (bY bl.length bl) (K (.ptr bl.length 0) (bl++[s7]) ch) False
 |_=>False
def axX(K:VK Empty):bz (bU du cU []) 60 33 [] [] [] (bG 0 K)=K (.ptr 0 0) [s7] []:=kR
def axY{G:Type}[Bl G]{gl:Nat->Option Nat}:Sound (G:=G) du gl 33 Ku:=by
 intro ak ae bl ch R ms w0 w K hg hl S hc;unfold Ku at hc;split at hc
 ·cases hq:bY bl.length bl with
  |false=>rw[hq]at hc;exact hc.elim
  |true=>
   rw[hq]at hc;have cT:bz (bU du cU ([]:List (bT Empty))) 60 33 [] [] [] (bG 0 λv b c=>v=.ptr 0 0/\b=[s7]):=by
    rw[axX];exact⟨rfl,rfl⟩
   have S1:St ms w0 (ax ([]:List Empty) (lits ae ae bl++ax ch R)) w:=S;refine(Ci (C:=bU du cU ([]:List (bT Empty))) (aK.nil (P:=du) (gl:=cU)).T (aK.nil (P:=du) (gl:=cU)).Q rfl cT S1).mono ?_;rintro v w' ⟨x,aq,b9,ce,rfl,h1,S',hK⟩;obtain⟨v2,cj,ci,hv,cK,S2,rfl,rfl⟩:=ig (n0:=0) h1 (oG _) S' hK
   match cj,cK with
   |[y],_=>
    refine⟨.ptr bl.length 0,[y],_,ch,?_,by simp[hl],?_,hc⟩
    ·rw[hv];have:(ae++[y]).getD bl.length 0=y:=by rw[<-hl];simp[gh]
     simp only[den,this,Qe,fu];rfl
    ·rw[fw _ _ _ _ hl,fy _ _ (by rw[hl];exact hq)];refine S2.perm ?_;have e:ax ce (lits ae ae bl++ax ch R)=lits ae ae bl++ax ch R:=by
      cases ce with
      |nil=>rfl
      |cons a l=>exact a.elim
     rw[e];show lO ([aI [y] y s7]++(lits ae ae bl++ax ch R)) ((lits ae ae bl++[aI (ae++[y]) y s7])++ax ch R);rw[jL (ae:=ae++[y]) (ids':=[y]) (b:=s7) rfl];exact dW λf=>by simp only[ee,j9,lQ];omega
   |[],h=>simp at h
   |_::_::_,h=>simp at h
 ·exact hc.elim
def axZ{G:Type}:gZ (Ku (G:=G)):=by
 intro ak bl ch K hc;unfold Ku at hc⊢;split at hc
 ·revert hc;cases bY bl.length bl with
  |false=>exact λh=>h.elim
  |true=>exact λhc=>⟨hc,_,rfl⟩
 ·exact hc.elim
def Yn(fr:aQ->Nat×az):List (bT (LG fr)):=[⟨32,ah,XU⟩,⟨33,af,Ku⟩]
def agq:aK du gS (Yn fr):=aK.cons ⟨awM,λe=>by cases e⟩ (aK.cons ⟨axY,λ_=>axZ⟩ aK.nil)
def PQ(P:aL):dm (LG fr):=λak bl ch K=>bz (bU P gS (Yn fr)) 60 11 ak bl ch (bG bl.length (agp bl λv b c=>(∃e,b=bl++e)/\K v b c))
def ax0:Sound du gS 11 (PQ (fr:=fr) du):=by
 intro ak ae bl ch R ms w0 w K hg hl S hc;refine(eO agq.T agq.Q 60 (C:=bU du gS (Yn fr)) hg hl S hc).mono ?_;rintro v w' ⟨x,aq,b9,ce,rfl,h1,S',hK⟩;obtain⟨v2,cj,ci,hv,cK,S2,iQ⟩:=ig (n0:=bl.length) h1 (by simp[hl]) S' hK;have q_:(ae++aq).take bl.length=ae:=by rw[<-hl];exact List.take_left
 rw[q_]at hv cK S2;clear hK hc S';unfold agp at iQ;split at iQ
 ·rename_i i u g fB rest;split at iQ
  ·rename_i ic a0 a1 a2 cc tc ax1;split at iQ
   ·rename_i x y hx hy;have fW:ci=ci.take bl.length++[⟨af,⟨90,(0,0)⟩,[.ptr ic 0,.int .i64 (.ofNat 0),.ptr a0 0,.ptr a1 0,.ptr a2 0]⟩,⟨af,⟨131,(0,0)⟩,cc⟩,s7,s7,s7,⟨af,⟨181,(0,0)⟩,tc⟩]:=by
     have h:=(jR bl.length ci).symm;rw[ax1]at h;exact h
    cases hq:aC i bl.length&&(aC ic (bl.length+1)&&(aC a0 (bl.length+2)&&(aC a1 (bl.length+3)&&(aC a2 (bl.length+4)&&(aC x.it (bl.length+5)&&bY bl.length bl)))))with
    |false=>rw[hq]at iQ;exact iQ.elim
    |true=>
     rw[hq]at iQ;obtain⟨⟨q0,q1,q2,q3⟩,Yo⟩:=iQ;rw[q0]at fW;simp only[bJ]at hq;obtain⟨b0,b1,b2,b3,b4,b5,hw⟩:=hq;obtain rfl:=cw b0;obtain rfl:=cw b1;obtain rfl:=cw b2;obtain rfl:=cw b3;obtain rfl:=cw b4;have b5:=cw b5;have hm6:cj.length=6:=by
      have h6:ci.length=bl.length+6:=by rw[fW];simp
      rw[fH]at cK;omega
     match cj,hm6 with
     |[m0,m1,m2,m3,m4,m5],_=>
      have hn:bl.length=ae.length:=hl.symm;have g0:(ae++[m0,m1,m2,m3,m4,m5]).getD bl.length 0=m0:=by rw[hn];simp[gh]
      have g1:(ae++[m0,m1,m2,m3,m4,m5]).getD (bl.length+1) 0=m1:=by rw[hn];simp[gh]
      have g2:(ae++[m0,m1,m2,m3,m4,m5]).getD (bl.length+2) 0=m2:=by rw[hn];simp[gh]
      have g3:(ae++[m0,m1,m2,m3,m4,m5]).getD (bl.length+3) 0=m3:=by rw[hn];simp[gh]
      have g4:(ae++[m0,m1,m2,m3,m4,m5]).getD (bl.length+4) 0=m4:=by rw[hn];simp[gh]
      have g5:(ae++[m0,m1,m2,m3,m4,m5]).getD (bl.length+5) 0=m5:=by rw[hn];simp[gh]
      obtain rfl:=I2 hx;obtain rfl:=yO hy
      let s:=gG x y g.d g.dx g.sx
      let a:Nat->Nat:=λj=>match j with|0=>m2|1=>m3|_=>m4
      let m:eY fr:=⟨g.d.k,s,g.F,fB,.new a,m1,m5⟩
      have hcB:(⟨af,⟨131,(0,0)⟩,CS x⟩:VB)=fM g.d.k x.it s:=by unfold fM;rw[<-q1]
      have htB:(⟨af,⟨181,(0,0)⟩,db y⟩:VB)=fA s:=by
       unfold fA;have:y=wA s:=by
        obtain⟨y1,y2,y3,y4,y5,y6,y7,y8⟩:=y;simp only at q2 q3;subst q2 q3;rfl
       rw[<-this]
      rw[fW,hcB,htB,fw _ _ _ _ hl,fy _ _ (by rw[hl];exact hw)]at S2
      let o:Obj:=.cells #[.pointer (aa ⟨m1,0,ag⟩),.int .i64 0,.pointer (aa ⟨m2,0,ag⟩),.pointer (aa ⟨m3,0,ag⟩),.pointer (aa ⟨m4,0,ag⟩)] 90 (0,0)
      let so:Obj:=.cells #[.slice ag 0 0] 133 (0,0)
      have e6:lits (ae++[m0,m1,m2,m3,m4,m5]) [m0,m1,m2,m3,m4,m5] [⟨af,⟨90,(0,0)⟩,[.ptr (bl.length+1) 0,.int .i64 (.ofNat 0),.ptr (bl.length+2) 0,.ptr (bl.length+3) 0,.ptr (bl.length+4) 0]⟩,fM g.d.k x.it s,s7,s7,s7,fA s]=
       [⟨m0,af,o⟩,aI (dc m1 m5) m1 (fM g.d.k 3 s),⟨m2,af,so⟩,⟨m3,af,so⟩,⟨m4,af,so⟩,aI [] m5 (fA s)]:=by
       simp only[lits];rw[OR (a:=m1) (b:=m5) m1 (by rw[b5];exact g5),jL (ids':=[]) (yQ s)];simp only[aI,s7,ao,den,cl,g1,g2,g3,g4];rfl
      have eR:aI (ae++[m0]) m0 m.R=⟨m0,ah,o⟩:=rfl;have eC:m.cB=[aI (dc m1 m5) m1 (fM g.d.k 3 s),aI [] m5 (fA s)]:=by
       unfold eY.cB;simp only[dG,lits,List.drop];rw[jL (ids':=[]) (b:=fA m.s) (yQ m.s)]
      have eG:m.G.B=[⟨m2,af,so⟩,⟨m3,af,so⟩,⟨m4,af,so⟩]:=rfl;rw[e6]at S2;have S3:St ms w0 (⟨m0,af,o⟩::(lits ae ae bl++([aI (dc m1 m5) m1 (fM g.d.k 3 s),⟨m2,af,so⟩,⟨m3,af,so⟩,⟨m4,af,so⟩,aI [] m5 (fA s)]++(cA u++((g.F.B++fB)++ax rest R))))) w':=by
       refine S2.perm ?_;show lO ((lits ae ae bl++[_,_,_,_,_,_])++(cA u++((g.F.B++fB)++ax rest R))) _;exact dW λf=>by simp only[ee,j9,lQ];omega
      have S4:=S3.mP;refine⟨.ptr bl.length 0,[m0],bl++[m.R],.br u::.gu m::rest,?_,by simp[hl],?_,(Yo m1 m5 a).2⟩
      ·rw[hv];have:(ae++[m0]).getD bl.length 0=m0:=by rw[hn];simp[gh]
       simp only[den,g0,this]
      ·rw[fw _ _ _ _ hl,fy _ _ (by rw[hl];exact hw)];show St ms w0 ((lits ae ae bl++[aI (ae++[m0]) m0 m.R])++(cA u++((m.cB++(g.F.B++(fB++m.G.B)))++ax rest R))) w';rw[eR,eC,eG];refine S4.perm ?_;exact dW λf=>by simp only[ee,j9,lQ];omega
   ·exact iQ.elim
  ·exact iQ.elim
 ·exact iQ.elim
def ax2:gZ (PQ (fr:=fr) du):=by
 intro ak bl ch K hc;unfold PQ at hc⊢;have e:(λ(v:V)(b:List VB)(c:List (LG fr))=>(∃e,b=bl++e)/\(K v b c/\∃e,b=bl++e))=λv b c=>(∃e,b=bl++e)/\K v b c:=by
  funext v b c;exact propext ⟨λh=>⟨h.1,h.2.1⟩,λh=>⟨h.1,h.2,h.1⟩⟩
 rw[e];exact hc
section
variable{G:Type}[Bl G]
def ax3{C:Ctx G}{f n:Nat}{ae:List Nat}{bl:List VB}{ch0 rest:List G}{R:List av}{ms:List Nat}{w0 w:an}(hT:∀f c,C.T f=aa c->Sound C.P C.gl f c)(hQ:nZ C)(hl:ae.length=bl.length)(S:St ms w0 (lits ae ae bl++ax (ch0++rest) R) w)
 (is:List Nat) (hn:is.Nodup) (hg:Gl C.gl (is.map λi=>ae.getD i 0)) (bs:List VB) (hb:is.map (bl[·]?)=bs.map aa) (hw:bY 0 bs=af) {ak args':List V} (cN:aJ ae ak=aJ (is.map λi=>ae.getD i 0) args') {v0:V} (Gq:dg 0 v0=af)
 (cT:bz C n f args' bs ch0 (bG bs.length λv b c=>v=v0/\b.take bs.length=bs/\∃c2,c=ch0++c2)):ba C.P f (aJ ae ak).toArray w λv w'=>v=den [] v0/\St ms w0 (lits ae ae bl++ax (ch0++rest) R) w':=by
 have dl:is.length=bs.length:=by have:=congrArg List.length hb;simpa using this
 have uz:∀(k i:Nat),is[k]?=aa i->∃b,bs[k]?=aa b/\bl[i]?=aa b:=by
  intro k i hk;have:=congrArg (λl=>l[k]?) hb;simp only[kA,hk,pk]at this;cases hbk:bs[k]?with
  |none=>rw[hbk]at this;simp at this
  |some b=>rw[hbk]at this;simp only[pk,a_]at this;exact⟨b,rfl,this⟩
 have dy:∀i∈is,i<bl.length:=by
  intro i hi;obtain⟨k,hk⟩:=DP hi;obtain⟨b,_,h2⟩:=uz k i hk;exact mj h2
 obtain⟨r,hr,hp⟩:=Fo (bl:=bl) (ae:=ae) hl hn dy;have kJ:=hp bl rfl;have Eu:∀(Yp:List Nat),(is.map λj=>aI ae (ae.getD j 0) (bl.getD j fp))=lits Yp (is.map λi=>ae.getD i 0) bs:=by
  intro Yp;clear hr hp kJ cN cT dy hg;induction is generalizing bs with
  |nil=>simp[lits]
  |cons i is ih=>
   cases bs with
   |nil=>simp at dl
   |cons b bs=>
    simp only[gx,List.cons.injEq]at hb;simp only[bY,bJ]at hw;simp only[gx,lits,lF hb.1];rw[jL (ids':=Yp) hw.1,ih (uo.1 hn).2 bs hb.2 hw.2 (by simpa using dl) (λk i hk=>uz (k+1) i (by simpa using hk))]
 rw[Eu (is.map λi=>ae.getD i 0)]at kJ;have S1:St ms w0 (lits (is.map λi=>ae.getD i 0) (is.map λi=>ae.getD i 0) bs++ax ch0 ((r.map λj=>aI ae (ae.getD j 0) (bl.getD j fp))++ax rest R)) w:=by
  refine S.perm ((kJ.append_right _).trans ?_);rw[k7,fk (ax rest R) ch0,fk ((r.map λj=>aI ae (ae.getD j 0) (bl.getD j fp))++ax rest R) ch0];exact dW λf=>by simp only[ee];omega
 rw[cN];refine(eO hT hQ n hg (by simpa using dl) S1 cT).mono ?_;rintro v w' ⟨x,agr,bl0,ce,rfl,xK,S0,hK⟩;obtain⟨v2,aq,b9,hv,qg,S2,rfl,hbs,c2,rfl⟩:=ig (n0:=bs.length) xK (by simp[dl]) S0 hK;have q_:((is.map λi=>ae.getD i 0)++agr).take bs.length=is.map λi=>ae.getD i 0:=by rw[<-dl];have:=List.take_left (l₁:=is.map λi=>ae.getD i 0) (l₂:=agr);simpa using this
 rw[q_]at hv qg S2;refine⟨by rw[hv];have:=gX (ae:=[]) (aq:=(is.map λi=>ae.getD i 0)++aq) v2 Gq;simpa using this,?_⟩;have qh:b9=bs++b9.drop bs.length:=by have:=jR bs.length b9;rw[hbs]at this;exact this.symm
 rw[qh,fw _ _ _ _ (by simpa using dl),Dq (ids':=is.map λi=>ae.getD i 0) (is.map λi=>ae.getD i 0) bs hw]at S2;rw[k7,fk _ ch0,fk _ c2]at S2;have S3:St ms w0 (lits (is.map λi=>ae.getD i 0) (is.map λi=>ae.getD i 0) bs++(ax ch0 []++((r.map λj=>aI ae (ae.getD j 0) (bl.getD j fp))++ax rest R))) w':=by
  refine S2.sub ?_;rw[bZ];refine mV ?_ _;refine ahg ?_ (kM _ _);exact mV (kM _ _) _
 refine S3.perm (xm ?_ (kJ.symm.append_right _));rw[k7,fk (ax rest R) ch0];exact dW λf=>by simp only[ee];omega
end
def Yq{G:Type}[Bl G]{C:Ctx Empty}{f n:Nat}{ae:List Nat}{bl:List VB}{ch:List G}{R:List av}{ms:List Nat}{w0 w:an}(hT:∀f c,C.T f=aa c->Sound C.P C.gl f c)(hQ:nZ C)(hg:C.gl=cU)(hl:ae.length=bl.length)(S:St ms w0 (lits ae ae bl++ax ch R) w)
 (is:List Nat) (hn:is.Nodup) (bs:List VB) (hb:is.map (bl[·]?)=bs.map aa) (hw:bY 0 bs=af) {ak args':List V} (cN:aJ ae ak=aJ (is.map λi=>ae.getD i 0) args') {v0:V} (Gq:dg 0 v0=af)
 (cT:bz C n f args' bs [] (bG bs.length λv b c=>v=v0/\b.take bs.length=bs/\∃c2,c=[]++c2)):ba C.P f (aJ ae ak).toArray w λv w'=>v=den [] v0/\St ms w0 (lits ae ae bl++ax ch R) w':=
 ax3 (G:=Empty) (ch0:=[]) (rest:=[]) (R:=ax ch R) hT hQ hl S is hn (λg i h=>by rw[hg]at h;cases h) bs hb hw cN Gq cT
structure SiD where
 h:Int
 e:Int
 o:Int
 m:Int
 mb:Label
 pt:fC
 b0:Bool
 b1:Bool
 b2:Bool
 b3:Bool
 b4:Bool
 r0:Int
 r1:Int
 r2:Int
 r3:Int
 r4:Int
 bad:Bool
def siL(x:SiD)(q:V):List V:=[.int .i64 x.h,.int .i64 x.e,.int .i64 x.o,.int .i64 x.m]++(oe x.mb++(yI x.pt++(q::([.bool x.b0,.bool x.b1,.bool x.b2,.bool x.b3,.bool x.b4]++[.int .i64 x.r0,.int .i64 x.r1,.int .i64 x.r2,.int .i64 x.r3,.int .i64 x.r4,.bool x.bad]))))
def siR:List V->Option (SiD×V)
 |.int .i64 h::.int .i64 e::.int .i64 o::.int .i64 m::.int .i64 a::.int .i64 b::.int .i64 c::.int .i64 p1::.int .i64 p2::.int .i64 p3::.int .i64 p4::.int .i64 p5::.int .i64 p6::.int .i64 p7::.int .i64 p8::.int .i64 p9::.int .i64 q1::.int .i64 q2::.int .i64 q3::q::
  .bool b0::.bool b1::.bool b2::.bool b3::.bool b4::.int .i64 r0::.int .i64 r1::.int .i64 r2::.int .i64 r3::.int .i64 r4::.bool bad::[]=>aa (⟨h,e,o,m,⟨a,b,c⟩,⟨p1,⟨p2,p3,p4,p5⟩,⟨p6,p7,p8,p9⟩,⟨q1,q2,q3⟩⟩,b0,b1,b2,b3,b4,r0,r1,r2,r3,r4,bad⟩,q)
 |_=>ag
def siR_ok{l:List V}{x:SiD}{q:V}(h:siR l=aa (x,q)):l=siL x q:=by
 unfold siR at h;split at h
 ·simp only[a_,bI]at h;obtain⟨rfl,rfl⟩:=h;rfl
 ·cases h
def sameC{G:Type}:dm G:=λak bl ch K=>match ak with
 |[.agg la,.agg lb]=>(match siR la,siR lb with
  |some (x,.dB i 0 n _ _),aa (y,.dB j 0 m _ _)=>(match bl[i]?,bl[j]?with
   |some ⟨_,_,[.gm 1 n' g,.rest _]⟩,aa ⟨_,_,[.gm 1 m' g',.rest _]⟩=>cond (!(aC i j)) ((x=y/\n'=n/\m'=n/\m=n/\n<=1000000/\g'=g/\∃q,g=ntG q)/\K (.bool af) bl ch) False
   |_,_=>False)
  |_,_=>False)
 |_=>False
def LSame:List (bT Empty):=[⟨38,af,intsC⟩]
def LSame_ok:aK du cU LSame:=aK.cons ⟨ints_sound,λ_=>ints_quiet⟩ aK.nil
def chain(no:Prop):List Bool->Prop->Prop
 |[],k=>k
 |b::l,k=>cond b (chain no l k) no
def chain_ok{no k:Prop}(hk:k):∀{l:List Bool},(∀b∈l,b=af)->chain no l k
 |[],_=>hk
 |b::l,h=>by
  unfold chain;rw[h b xk];exact chain_ok hk λc hc=>h c (qA _ hc)
def labE(a b:Label):Bool:=a.na==b.na&&(a.source==b.source&&(a.seq==b.seq&&af))
def x4E(a b:X4):Bool:=a.a==b.a&&(a.b==b.b&&(a.c==b.c&&(a.d==b.d&&af)))
def ptE(a b:fC):Bool:=a.cls==b.cls&&(x4E a.bC b.bC&&(x4E a.now b.now&&(labE a.ct b.ct&&af)))
def labE_self(a:Label):labE a a=af:=by simp[labE]
def x4E_self(a:X4):x4E a a=af:=by simp[x4E]
def ptE_self(a:fC):ptE a a=af:=by simp[ptE,x4E_self,labE_self]
def siT(x:SiD):List Bool:=[x.h==x.h,x.e==x.e,x.o==x.o,x.m==x.m,labE x.mb x.mb,ptE x.pt x.pt,x.b0==x.b0&&(x.b1==x.b1&&(x.b2==x.b2&&(x.b3==x.b3&&(x.b4==x.b4&&af)))),x.r0==x.r0&&(x.r1==x.r1&&(x.r2==x.r2&&(x.r3==x.r3&&(x.r4==x.r4&&af))))]
section
variable(x:SiD)(n c c':Nat)(y y':Option aF)(q:Nat->Int)(a b:Bool)(ty sV:BT)(u u':List aj)(K:VK Empty)
def sameX:Prop:=(n=n/\n=n/\n=n/\n<=1000000/\ntG q=ntG q/\∃q',ntG q=ntG q')/\chain (K (.bool ah) (ntsL n q a b ty sV u u') []) (siT x) (K (.bool (x.bad==x.bad)) (ntsL n q a b ty sV u u') [])
def same_vc:bz (bU du cU LSame) 60 15 [.agg (siL x (.dB 0 0 n c y)),.agg (siL x (.dB 1 0 n c' y'))] (ntsL n q a b ty sV u u') [] (bG 2 K)=sameX x n q a b ty sV u u' K:=kR
end
def same_ok{x:SiD}{n:Nat}{q:Nat->Int}{a b:Bool}{ty sV:BT}{u u':List aj}{K:VK Empty}(hn:n<=1000000)(hK:K (.bool af) (ntsL n q a b ty sV u u') []):sameX x n q a b ty sV u u' K:=by
 refine⟨⟨rfl,rfl,rfl,hn,rfl,q,rfl⟩,chain_ok ?_ ?_⟩
 ·have:(x.bad==x.bad)=af:=sP;rw[this];exact hK
 ·intro t ht;simp only[siT,cG,py,or_false]at ht;rcases ht with rfl|rfl|rfl|rfl|rfl|rfl|rfl|rfl<;>simp[labE_self,ptE_self]
def same_sound{G:Type}[Bl G]{gl:Nat->Option Nat}:Sound (G:=G) du gl 15 sameC:=by
 intro ak ae bl ch R ms w0 w K hg hl S hc;unfold sameC at hc;split at hc
 ·rename_i la lb;split at hc
  ·rename_i x i n c o y j m c' o' hx hy;split at hc
   ·rename_i a ty n' g u b sV m' g' u' hi hj;cases hq:!(aC i j)with
    |false=>rw[hq]at hc;exact hc.elim
    |true=>
     rw[hq]at hc;obtain⟨⟨rfl,rfl,rfl,rfl,hn,rfl,q,rfl⟩,hK⟩:=hc;obtain rfl:=siR_ok hx;obtain rfl:=siR_ok hy;have mW:i≠j:=λe=>by rw[e,uv]at hq;cases hq
     have cT:bz (bU du cU LSame) 60 15 [.agg (siL x (.dB 0 0 m c o)),.agg (siL x (.dB 1 0 m c' o'))] (ntsL m q a b ty sV u u') [] (bG (ntsL m q a b ty sV u u').length λv bl c=>v=.bool af/\bl.take (ntsL m q a b ty sV u u').length=ntsL m q a b ty sV u u'/\∃c2,c=[]++c2):=by
      show bz (bU du cU LSame) 60 15 _ _ _ (bG 2 _);rw[same_vc];exact same_ok hn ⟨rfl,rfl,[],rfl⟩
     have hp:=Yq (C:=bU du cU LSame) LSame_ok.T LSame_ok.Q rfl hl S [i,j] (by simp[mW]) (ntsL m q a b ty sV u u') (by simp[hi,hj,ntsL]) rfl (ak:=[.agg (siL x (.dB i 0 m c o)),.agg (siL x (.dB j 0 m c' o'))]) ?_ rfl cT
     ·refine hp.mono ?_;rintro v w' ⟨rfl,S2⟩;exact⟨.bool af,[],bl,ch,rfl,by simpa using hl,by simpa using S2,hK⟩
     ·simp only[siL,oe,yI,aJ,den,ao,cl,fe,fu];rfl
   ·exact hc.elim
  ·exact hc.elim
 ·exact hc.elim
def Kv:dm (LG fr):=λak bl ch K=>match ak,ch with
 |[.ptr ic 0],.br u::.core g fB::rest=>(match bl[ic]?with
  |some ⟨af,⟨131,(0,0)⟩,cc⟩=>(match CT cc with
   |some x=>(match bl[x.it]?with
    |some ⟨af,⟨181,(0,0)⟩,tc⟩=>(match tZ tc with
     |some y=>cond (bY bl.length bl&&(dq 1 ic&&(dq 1 x.it&&!(aC ic x.it))))
      ((bl[0]?=aa (cx g.d.k)/\bl[1]?=aa (g_ g.d.k)/\x=nr g.d.k x.it (gG x y g.d g.dx g.sx)/\y.b=x.p.da/\y.m=x.p.jk/\x.p.queue=g.d.k.most)/\
        ∀(z:Option aF)(c ty:Nat)(us:List aj),K (iV bl.length (.agg (oZ (gG x y g.d g.dx g.sx) (.dB 0 0 g.d.q.length c z)))) (bl++[jf ty 1 g.d.q.length (ov g.d.q) us]) (.br u::.core g fB::rest)) False
     |none=>False)
    |_=>False)
   |none=>False)
  |_=>False)
 |_,_=>False
def ags{bl:List VB}{i:Nat}{b:VB}(h:bl[i]?=aa b):bl.set i b=bl:=by
 apply zN;intro j;rw[List.getElem?_set];split
 ·rename_i hj;subst hj;rw[h];simp[mj h]
 ·rfl
def ax4(ht:Body (fr:=fr) 124 dE):Sound du gS 37 (Kv (fr:=fr)):=by
 intro ak ae bl ch R ms w0 w K hg hl S hc;have key:zi (λ_=>W4) ak bl ch λv b c=>∃ex,b=bl++ex/\(∀Y,ax c Y=ax ch Y)/\K v (bl++ex) ch:=by
  unfold Kv at hc;unfold zi;split at hc
  ·rename_i ic u g fB rest;split at hc
   ·rename_i cc vY;try simp only[vY]
    split at hc
    ·rename_i x hx;try simp only[hx]
     split at hc
     ·rename_i tc t_;try simp only[t_]
      split at hc
      ·rename_i y hy;try simp only[hy]
       cases hq:bY bl.length bl&&(dq 1 ic&&(dq 1 x.it&&!(aC ic x.it)))with
       |false=>rw[hq]at hc;exact hc.elim
       |true=>
        rw[hq]at hc;obtain⟨⟨e3,e4,e5,e6,e7,e8⟩,hK⟩:=hc;simp only[bF,Bool.true_and,cond_true];refine⟨⟨e3,e4,e5,e6,e7,e8⟩,λz c ty us=>?_⟩;have iM:bl[ic]?=aa (fM g.d.k x.it (gG x y g.d g.dx g.sx)):=by
         rw[vY,I2 hx];congr 1;unfold fM;rw[<-e5]
        have fW:bl[x.it]?=aa (fA (gG x y g.d g.dx g.sx)):=by
         rw[t_,yO hy];congr 1;unfold fA;have:y=wA (gG x y g.d g.dx g.sx):=by
          obtain⟨y1,y2,y3,y4,y5,y6,y7,y8⟩:=y;simp only at e6 e7;subst e6 e7;rfl
         rw[<-this]
        have hs:jq bl ic x.it g.d.k (gG x y g.d g.dx g.sx)=bl:=by
         unfold jq;rw[ags iM,ags fW]
        exact⟨_,congrArg (·++_) hs,λY=>rfl,hK z c ty us⟩
      ·exact hc.elim
     ·exact hc.elim
    ·exact hc.elim
   ·exact hc.elim
  ·exact hc.elim
 refine(ae0 (auM ht) ak ae bl ch R ms w0 w _ hg hl S key).mono ?_;rintro v w' ⟨x,aq,b9,ce,hv,h1,S',ex,rfl,hn,hK⟩;exact⟨x,aq,_,ch,hv,h1,by rw[hn]at S';exact S',hK⟩
def ax5:gZ (Kv (fr:=fr)):=by
 intro ak bl ch K hc;unfold Kv at hc⊢;split at hc
 ·split at hc
  ·split at hc
   ·split at hc
    ·split at hc
     ·rename_i y hy;revert hc;cases bY bl.length bl&&_ with
      |false=>exact λh=>h.elim
      |true=>exact λhc=>⟨hc.1,λz c ty us=>⟨hc.2 z c ty us,_,rfl⟩⟩
     ·exact hc.elim
    ·exact hc.elim
   ·exact hc.elim
  ·exact hc.elim
 ·exact hc.elim
end
section
variable{fr:aQ->Nat×az}
def Kw:MM fr:=λar m rest Kb=>match ar with
 |[]=>m.s.c.p.queue=m.k.most/\∀(z:Option aF)(c ty:Nat)(us:List aj),Kb (.agg (oZ m.s (.dB 0 0 m.s.c.q.length c z))) m [jf ty 1 m.s.c.q.length (ov m.s.c.q) us]
 |_=>False
def PR(fr:aQ->Nat×az):List (bT (LG fr)):=[⟨37,af,Kv⟩]
def ax6(ht:Body (fr:=fr) 124 dE):aK du gS (PR fr):=aK.cons ⟨ax4 ht,λ_=>ax5⟩ aK.nil
section
variable(u:an)(k:LK)(s:ai)(F:bx fr (bd k s))(fB:List av)(G:ew)(K:VK (LG fr))
def ax7:bz (bU du gS (PR fr)) 60 14 [.ptr 4 0] (jZ k s G) [.br u,.core (bj k s F) fB] (bG 5 K)=(OZ k s/\∀(z:Option aF)(c ty:Nat)(us:List aj),K (.agg (oZ (bV s) (.dB 5 0 s.c.q.length c z))) (jZ k s G++[jf ty 1 s.c.q.length (ov s.c.q) us]) [.br u,.core (bj k s F) fB]):=kR
end
def ax8:gZ (Gc (Kw (fr:=fr))):=by
 intro ak bl ch K hc;unfold Gc at hc⊢;split at hc
 ·split at hc
  ·rename_i p m q hm;revert hc;cases bY bl.length bl with
   |false=>exact λh=>h.elim
   |true=>
    intro hc;refine⟨hc.1,?_⟩;have h2:=hc.2;unfold Kw at h2⊢;split at h2
    ·exact⟨h2.1,λz c ty us=>⟨h2.2 z c ty us,_,rfl⟩⟩
    ·exact h2.elim
  ·exact hc.elim
 ·exact hc.elim
def ax9(ht:Body (fr:=fr) 124 dE):XE 14 (Kw (fr:=fr)):=by
 intro u ae ar m rest Kb im R ms w0 w hM S;unfold Kw at hM;split at hM
 ·have hg:Gl gS (nG m im):=by
   intro g i dz;unfold gS at dz;split at dz
   ·obtain rfl:=cP dz;exact⟨by simp[nG],rfl⟩
   ·obtain rfl:=cP dz;exact⟨by simp[nG],rfl⟩
   ·cases dz
  let K:VK (LG fr):=λv b c=>∃(z:Option aF)(cc ty:Nat)(us:List aj),v=.agg (oZ m.s (.dB 5 0 m.s.c.q.length cc z))/\b=jZ m.k m.s m.G++[jf ty 1 m.s.c.q.length (ov m.s.c.q) us]/\c=[.br u,.core (bj m.k m.s m.F) m.fB]
  have cT:bz (bU du gS (PR fr)) 60 14 [.ptr 4 0] (jZ m.k m.s m.G) [.br u,.core (bj m.k m.s m.F) m.fB] (bG 5 K):=by
   rw[ax7];exact⟨⟨rfl,rfl,by rw[nu],rfl,rfl,hM.1⟩,λz cc ty us=>⟨z,cc,ty,us,by rw[nu],rfl,rfl⟩⟩
  have cN:(.pointer (aa ⟨im,0,ag⟩)::aJ ae []).toArray=(aJ (nG m im) [.ptr 4 0]).toArray:=rfl;rw[cN];have hok:=ax6 (fr:=fr) ht;refine(eO hok.T hok.Q 60 (C:=bU du gS (PR fr)) (ae:=nG m im) (bl:=jZ m.k m.s m.G) (ch:=[.br u,.core (bj m.k m.s m.F) m.fB]) (R:=m.G.B++ax rest R) hg rfl (S.perm (by
   show lO _ (m.wW im++(cA u++((m.F.B++m.fB)++(m.G.B++ax rest R))));exact dW λf=>by simp only[ee];omega)) cT).mono ?_
  rintro v w' ⟨x,aq,b9,ce,rfl,h1,S',hK⟩;obtain⟨v2,cj,ci,hv,cK,S2,z,cc,ty,us,rfl,rfl,rfl⟩:=ig (n0:=5) h1 (by simp[nG]) S' hK;have q_:(nG m im++aq).take 5=nG m im:=rfl;rw[q_]at hv cK S2
  match cj,cK with
  |[y],_=>
   refine⟨_,m,_,[y],rfl,?_,rfl,hM.2 z cc ty us,?_⟩
   ·rw[hv];have g5:(nG m im++[y]).getD 5 0=y:=rfl;have g0:([y]:List Nat).getD 0 0=y:=rfl;simp only[oZ,oe,yI,den,ao,cl,cy,fe,fu,g5,g0]
   ·have e1:lits (nG m im++[y]) (nG m im++[y]) (jZ m.k m.s m.G++[jf ty 1 m.s.c.q.length (ov m.s.c.q) us])=m.wW im++lits [y] [y] [jf ty 1 m.s.c.q.length (ov m.s.c.q) us]:=by
     rw[fw _ _ _ _ rfl,fy (ae:=nG m im) (aq:=[y]) (nG m im) (jZ m.k m.s m.G) rfl,Dq (ids':=[y]) [y] _ rfl];rfl
    rw[e1]at S2;refine S2.perm ?_;show lO (_++(cA u++((m.F.B++m.fB)++(m.G.B++ax rest R)))) _;exact dW λf=>by simp only[ee];omega
  |[],h=>simp[nG,jZ]at h
  |_::_::_,h=>simp[nG,jZ]at h
 ·exact hM.elim
structure vF(u:an)(es:Nat->eT)(n:Nat) where
 j:Nat
 hj:j<=cY 60 n
 dN:Nat->eT
 bs:List jz
 ok:DD u es dN j bs
 x:Option aF
 c:Nat
 bk:List av
 h:dk 10 38 ((bg j).flatMap (kz dN)) x j c bk
def vF.r{u:an}{es:Nat->eT}{n:Nat}(y:vF u es n):bD:=⟨38,10,(bg y.j).flatMap (kz y.dN),y.x,y.j,y.c,y.bk,y.h⟩
section
variable(u:an)(es:Nat->eT)(ty:BT)(o n c:Nat)(a:Option aF)(aw a9:List aj)
def Yr(y:vF u es n):List V:=[.dB 0 o n c a,y.r.v,.int .i64 y.j]
def Ys(y:vF u es n):List VB:=[nH ty n es aw a9]
def Yt(y:vF u es n):List (LG fr):=[.br u,.hJ y.bs,.row y.r]
def Yu:Lp (LG fr):=we (X:=vF u es n) (λy=>n-y.j) 36 1 [0,3,4] (Yr u es o n c a) (Ys u es ty n aw a9) (Yt u es n) (λ_=>rfl) (λ_=>rfl) (λ_=>rfl)
variable(K:VK (LG fr))
def agt(y:vF u es n):Prop:=
 let e:=es (y.j:Int).toNat
 let m:Int:=if(120:Int)<(e.n:Int)then 120 else(e.n:Int)
 (0<=(y.j:Int)/\(y.j:Int)<(n:Int))/\(o=aw.length/\(y.j:Int).toNat<n/\∀i,(kz es i).length=10)/\(0<=m/\m<=(e.c:Int))/\(jx u e.x m.toNat e.c (dP u e.x)/\m.toNat<=1000000)/\∀b:jz,b.n=m.toNat->b.f=dP u e.x->
  (y.r.v=y.r.v/\y.j+1<=1000000)/\∀(x:Option aF)(c':Nat)(bk:List av)(h:dk 10 38 (y.r.os++ao [] (dH e.kind e.src (.slice b.x b.n b.c) e.s e.bad)) x (y.j+1) c' bk),
   af=af/\uY (λy=>n-y.j) (Yr u es o n c a) (Ys u es ty n aw a9) (Yt (fr:=fr) u es n) y [.dB 0 o n c a,.raw (.slice x (y.j+1) c'),.int .i64 (i64.wrap ((y.j:Int)+1))] [nH ty n es aw a9] [.br u,.hJ (y.bs++[b]),.row ⟨38,10,y.r.os++ao [] (dH e.kind e.src (.slice b.x b.n b.c) e.s e.bad),x,y.j+1,c',bk,h⟩]
def Yv:Prop:=∀r:bD,r.T=38->r.z=9+1->r.os=[]->r.n=0->
 (af=af/\uX (Yr u es o n c a) (Ys u es ty n aw a9) (Yt (fr:=fr) u es n) [.dB 0 o n c a,r.v,.int .i64 0] [nH ty n es aw a9] [.br u,.hJ [],.row r])/\
 ∀(y:vF u es n)(g:Nat->aj),cond (decide ((y.j:Int)<(n:Int))) (cond (decide ((y.j:Int)<60)) (agt u es ty o n c a aw a9 y (fr:=fr)) (K y.r.v [nH ty n es aw a9] [.br u,.hJ y.bs,.row y.r])) (K y.r.v [nH ty n es aw a9] [.br u,.hJ y.bs,.row y.r])
def few_25:bz (vE du cU ([]:List (bT (LG fr))) Gk Kl (λi _=>ja 0 (Yu (fr:=fr) u es ty o n c a aw a9) i)) 60 12 [.dB 0 o n c a] [nH ty n es aw a9] [.br u,.hJ []] (bG 1 K)=Yv u es ty o n c a aw a9 K:=kR
end
def agu{T z n c:Nat}{os os':List aj}{x:Option aF}{bk:List av}(e:os=os')(h:dk z T os x n c bk):(⟨T,z,os,x,n,c,bk,h⟩:bD)=⟨T,z,os',x,n,c,bk,e▸h⟩:=by subst e;rfl
def Yw{ms:List Nat}{w0 w:an}{z T n c:Nat}{bw:List aj}{x:Option aF}{B R:List av}{g:Nat->List aj}{o:Obj}{z0:Nat}(h:dk z T bw x n c B)(S:St ms w0 (B++R) w){tg:aP}{cs:List aj}(ho:o=.cells cs.toArray tg (0,0))(lH:(⟨z0,ah,o⟩:av)∈R)(hg:bw=(bg n).flatMap g):
 ∃(i ty:Nat)(us:List aj),tj x n c=.slice (bif aC n 0 then x else aa ⟨i,0,ag⟩) n c/\St ms w0 (⟨i,ah,.cells ((bg n).flatMap g++us).toArray ty (0,0)⟩::R) w:=by
 subst ho;rcases h.2.2 with⟨rfl,rfl,rfl,rfl⟩|⟨b,tail,rfl,rfl,_⟩
 ·exact⟨z0,tg,cs,rfl,by simpa using S.dup lH rfl⟩
 ·refine⟨b,T,tail,?_,?_⟩
  ·cases aC n 0<;>rfl
  ·rw[<-hg];exact S.mP
section
variable{u:an}{es:Nat->eT}{ty:BT}{o n c:Nat}{a:Option aF}{aw a9:List aj}{K:VK (LG fr)}
def aya(ho:∀j,j<n->o=aw.length)(zE:∀j,j<n->jx u (es j).x (es j).n (es j).c (dP u (es j).x))(hK:∀y:vF u es n,y.j=cY 60 n->K y.r.v [nH ty n es aw a9] [.br u,.hJ y.bs,.row y.r]):Yv u es ty o n c a aw a9 K:=by
 rintro⟨T,z,os,x,nn,c0,bk,h⟩ hT hz yN En;simp only at hT hz yN En;subst hT hz yN En;refine⟨⟨rfl,⟨0,oG _,λ_=>⟨0,0,ag,0,0,⟨ah,⟨0,0,0,0⟩,ah⟩,ah⟩,[],⟨rfl,λj hj=>absurd hj (Nat.not_lt_zero _)⟩,x,c0,bk,h⟩,rfl,rfl,rfl⟩,?_⟩;intro y g;have uj:=y.hj;refine aN (λe1=>aN (λe2=>?_) (λe2=>hK y ?_)) (λe1=>hK y ?_)
 ·have h1:y.j<n:=by simpa using e1
  have h2:y.j<60:=by have:((y.j:Nat):Int)<60:=by simpa using e2
                     omega
  have hk:=zE y.j h1;have hle:cY 120 (es y.j).n<=(es y.j).n/\cY 120 (es y.j).n<=120:=by unfold cY;omega
  have hkc:=hk.1;unfold agt;simp only[tf];rw[show(if(120:Int)<(((es y.j).n:Nat):Int)then 120 else(((es y.j).n:Nat):Int))=((cY 120 (es y.j).n:Nat):Int)from ZY 120 _,tf];refine⟨⟨oM,oM⟩,⟨ho _ h1,h1,λi=>rfl⟩,⟨oM,oM⟩,⟨(hk.cut hle.1 oM).2,oM⟩,λb iM fW=>⟨⟨trivial,oM⟩,λx c' bk h=>⟨trivial,?_⟩⟩⟩
  let Kx:Nat->eT:=λi=>if i=y.j then(es y.j).cp b else y.dN i
  have yN:y.r.os++ao [] (dH (es y.j).kind (es y.j).src (.slice b.x b.n b.c) (es y.j).s (es y.j).bad)=(bg (y.j+1)).flatMap (kz Kx):=by
   rw[vK,vL];congr 1
   ·show(bg y.j).flatMap (kz y.dN)=_;simp only[GF];congr 1;apply mB;intro i hi;have hi:=List.mem_range.1 hi;have:Kx i=y.dN i:=if_neg oM;unfold kz;rw[this]
   ·have:Kx y.j=(es y.j).cp b:=if_pos rfl;rw[List.flatMap_cons,List.flatMap_nil,cy];unfold kz;rw[this];rfl
  have hF:DD u es Kx (y.j+1) (y.bs++[b]):=by
   refine⟨by rw[fH,y.ok.len];rfl,λi hi=>?_⟩;by_cases mW:i=y.j
   ·subst mW;refine⟨b,?_,if_pos rfl,iM,fW⟩;rw[vI (by rw[y.ok.len];exact cW _),y.ok.len];simp
   ·obtain⟨b',q1,q2,q3,q4⟩:=y.ok.each i oM;refine⟨b',?_,?_,q3,q4⟩
    ·rw[gB (by rw[y.ok.len];omega)];exact q1
    ·rw[<-q2];exact if_neg mW
  refine⟨⟨y.j+1,by unfold cY at uj⊢;omega,Kx,y.bs++[b],hF,x,c',bk,yN▸h⟩,by show n-(y.j+1)<n-y.j;omega,?_,rfl,?_⟩
  ·rw[lg oM];rfl
  ·show[LG.br u,.hJ (y.bs++[b]),.row _]=[LG.br u,.hJ (y.bs++[b]),.row _];rw[agu yN h];rfl
 ·have h1:¬y.j<60:=by
   have:¬((y.j:Nat):Int)<60:=by simpa using e2
   omega
  unfold cY at uj⊢;omega
 ·have h1:¬y.j<n:=by simpa using e1
  unfold cY at uj⊢;omega
end
def CFw(fr:aQ->Nat×az)(P:aL)(u:an)(es:Nat->eT)(ty:BT)(o n c:Nat)(a:Option aF)(aw a9:List aj)(f:Nat)(K:VK (LG fr)):Prop:=bz (vE du cU ([]:List (bT (LG fr))) Gk Kl (λi _=>ja 0 (Yu (fr:=fr) u es ty o n c a aw a9) i)) 60 f [.dB 0 o n c a] [nH ty n es aw a9] [.br u,.hJ []] (bG 1 K)
def ayb{f:Nat}(hw:∀(u:an)(es:Nat->eT)(ty:BT)(o n c:Nat)(a:Option aF)(aw a9:List aj)(K:VK (LG fr)),CFw fr du u es ty o n c a aw a9 f K=Yv u es ty o n c a aw a9 K):Sound du gS f (Gm (fr:=fr)):=by
 intro ak ae bl ch R ms w0 w K hg hl S hc;unfold Gm at hc;split at hc
 ·rename_i i o n c a u rest;split at hc
  ·rename_i ty aw n' g a9 hb;cases hq:bY bl.length bl with
   |false=>rw[hq]at hc;exact hc.elim
   |true=>
    rw[hq]at hc;obtain⟨es,⟨rfl,rfl,ho,hle,⟨tg,lH⟩,zE⟩,hK⟩:=hc;have m1:=wV (ae:=ae) ae bl hl i _ hb;have m0:=wV (ae:=ae) ae bl hl 0 _ lH;generalize BO:ae.getD i 0=bi at m1;have eB:aI ae bi ⟨ah,ty,[.rest aw,.gm 10 n' (kz es),.rest a9]⟩=aI [bi] bi (nH ty n' es aw a9):=jL (b:=nH ty n' es aw a9) rfl;rw[eB]at m1;have S1:St ms w0 (lits [bi] [bi] [nH ty n' es aw a9]++ax [LG.br (fr:=fr) u,.hJ []] (lits ae ae bl++ax rest R)) w:=by
     refine(S.dup (kB _ m1) rfl).perm ?_;show lO (_::(lits ae ae bl++(cA u++ax rest R))) ([_]++(cA u++([]++(lits ae ae bl++ax rest R))));exact dW λf=>by simp only[ee,j9,lQ];omega
    have cT:CFw fr du u es ty o n' c a aw a9 f (λv b ch=>∃y:vF u es n',y.j=cY 60 n'/\v=y.r.v/\b=[nH ty n' es aw a9]/\ch=[.br u,.hJ y.bs,.row y.r]):=by
     rw[hw];exact aya ho zE λy hy=>⟨y,hy,rfl,rfl,rfl⟩
    have cN:aJ ae [.dB i o n' c a]=aJ [bi] [.dB 0 o n' c a]:=by
     simp only[aJ,den,BO];rfl
    rw[cN];have hok:=aK.nil (G:=LG fr) (P:=du) (gl:=cU);refine(eO (C:=vE du cU ([]:List (bT (LG fr))) Gk Kl (λi _=>ja 0 (Yu (fr:=fr) u es ty o n' c a aw a9) i)) hok.T hok.Q 60 (λg i h=>by cases h) rfl S1 cT).mono ?_;rintro v w' ⟨x,aq,b9,ce,rfl,h1,S',sd⟩;obtain⟨v2,cj,ci,hv,cK,S2,y,hy,rfl,rfl,rfl⟩:=ig (n0:=1) h1 sP S' sd;obtain rfl:cj=[]:=kX (by simpa using cK);have q_:([bi]++aq).take 1=[bi]:=rfl;rw[q_,cy]at S2;rw[q_]at hv;have S3:St ms w0 (y.bk++(lits ae ae bl++(cA u++(ni y.bs++ax rest R)))) w':=by
     have S4:St ms w0 ([aI [bi] bi (nH ty n' es aw a9)]++(cA u++(ni y.bs++(y.bk++(lits ae ae bl++ax rest R))))) w':=S2;refine(S4.sub (kM _ _)).perm ?_;exact dW λf=>by simp only[ee];omega
    have hj:=y.hj;obtain⟨i1,t1,u1,q1,S5⟩:=Yw (g:=kz y.dN) y.h S3 (z0:=ae.getD 0 0) (tg:=tg) (cs:=ao ae (fO tg).c) rfl (by simp only[dV];exact .inl m0) rfl;have hfw:=hK y.dN y.bs y.x y.c t1 u1 (by rw[<-hy];exact y.ok);refine⟨_,[i1],_,_,?_,by simp[hl],?_,hfw⟩
    ·rw[hv];have e1:(ae++[i1]).getD bl.length 0=i1:=by rw[<-hl];simp[gh]
     simp only[vF.r,bD.v,den,e1,<-hy];exact q1
    ·have e2:lits (ae++[i1]) [i1] [jf t1 10 (cY 60 n') (kz y.dN) u1]=[⟨i1,ah,.cells ((bg y.j).flatMap (kz y.dN)++u1).toArray t1 (0,0)⟩]:=by
      simp only[lits,aI,FT,hy];rfl
     rw[fw _ _ _ _ hl,fy _ _ (by rw[hl];exact hq),e2];refine S5.perm ?_;show lO _ ((lits ae ae bl++[_])++(cA u++(ni y.bs++ax rest R)));exact dW λf=>by simp only[ee,j9,lQ];omega
  ·exact hc.elim
 ·exact hc.elim
def few_25S:Sound du gS 12 (Gm (fr:=fr)):=ayb λu es ty o n c a aw a9 K=>few_25 u es ty o n c a aw a9 K
end
section
def pd(wr:Bool)(a b c d:aj)(e:Int):VB:=⟨wr,⟨90,(0,0)⟩,[.raw a,.int .i64 e,.raw b,.raw c,.raw d]⟩
def Gs{G:Type}:dm G:=λak bl ch K=>match ak with
 |[.ptr i 0]=>(match bl[i]?with
  |some ⟨wr,⟨90,(0,0)⟩,[.raw a,.int .i64 e,.raw b,.raw c,.raw d]⟩=>K (.int .i64 e) bl ch
  |_=>False)
 |_=>False
noncomputable def Ky:V:=.agg (match lX du 55 with|some z=>z|none=>[])
def Kz{G:Type}:dm G:=λak bl ch K=>match ak with
 |[.ptr i 0]=>(match bl[i]?with
  |some ⟨wr,⟨90,(0,0)⟩,[.raw (.pointer ag),.int .i64 e,.raw b,.raw c,.raw d]⟩=>K Ky bl ch
  |_=>False)
 |_=>False
def ayd(wr:Bool)(a b c d:aj)(e:Int)(K:VK Empty):bz (bU du cU []) 60 20 [.ptr 0 0] [pd wr a b c d e] [] (bG 1 K)=K (.int .i64 e) [pd wr a b c d e] []:=kR
def aye(wr:Bool)(b c d:aj)(e:Int)(K:VK Empty):bz (bU du cU []) 60 14 [.ptr 0 0] [pd wr (.pointer ag) b c d e] [] (bG 1 K)=K Ky [pd wr (.pointer ag) b c d e] []:=kR
def agv{G:Type}[Bl G]{gl:Nat->Option Nat}:Sound (G:=G) du gl 20 Gs:=by
 intro ak ae bl ch R ms w0 w K hg hl S hc;unfold Gs at hc;split at hc
 ·rename_i i;split at hc
  ·rename_i wr a e b c d hb;have cT:bz (bU du cU ([]:List (bT Empty))) 60 20 [.ptr 0 0] [pd wr a b c d e] [] (bG ([pd wr a b c d e].length) λv b9 c'=>v=.int .i64 e/\b9.take ([pd wr a b c d e].length)=[pd wr a b c d e]/\∃c2,c'=[]++c2):=by
    show bz _ 60 _ _ _ _ (bG 1 _);rw[ayd];exact⟨rfl,rfl,[],rfl⟩
   have hok:=aK.nil (G:=Empty) (P:=du) (gl:=cU);refine(Yq (C:=bU du cU ([]:List (bT Empty))) hok.T hok.Q rfl hl S [i] sP [pd wr a b c d e] (by simp[hb,pd]) rfl (ak:=[.ptr i 0]) (by simp only[aJ,den];rfl) rfl cT).mono ?_;rintro v w' ⟨rfl,S2⟩;exact⟨.int .i64 e,[],bl,ch,by simp only[den],by simpa using hl,by simpa using S2,hc⟩
  ·exact hc.elim
 ·exact hc.elim
def ayf{G:Type}[Bl G]{gl:Nat->Option Nat}:Sound (G:=G) du gl 14 Kz:=by
 intro ak ae bl ch R ms w0 w K hg hl S hc;unfold Kz at hc;split at hc
 ·rename_i i;split at hc
  ·rename_i wr e b c d hb;have cT:bz (bU du cU ([]:List (bT Empty))) 60 14 [.ptr 0 0] [pd wr (.pointer ag) b c d e] [] (bG ([pd wr (.pointer ag) b c d e].length) λv b9 c'=>v=Ky/\b9.take ([pd wr (.pointer ag) b c d e].length)=[pd wr (.pointer ag) b c d e]/\∃c2,c'=[]++c2):=by
    show bz _ 60 _ _ _ _ (bG 1 _);rw[aye];exact⟨rfl,rfl,[],rfl⟩
   have hok:=aK.nil (G:=Empty) (P:=du) (gl:=cU);refine(Yq (C:=bU du cU ([]:List (bT Empty))) hok.T hok.Q rfl hl S [i] sP [pd wr (.pointer ag) b c d e] (by simp[hb,pd]) rfl (ak:=[.ptr i 0]) (by simp only[aJ,den];rfl) kR cT).mono ?_;rintro v w' ⟨rfl,S2⟩;exact⟨Ky,[],bl,ch,by have:=gX (ae:=[]) (aq:=ae++[]) Ky kR;simpa using this.symm,by simpa using hl,by simpa using S2,hc⟩
  ·exact hc.elim
 ·exact hc.elim
def agw{G:Type}:gZ (Gs (G:=G)):=by
 intro ak bl ch K hc;unfold Gs at hc⊢;split at hc
 ·split at hc
  ·exact⟨hc,[],sP⟩
  ·exact hc.elim
 ·exact hc.elim
def ayg{G:Type}:gZ (Kz (G:=G)):=by
 intro ak bl ch K hc;unfold Kz at hc⊢;split at hc
 ·split at hc
  ·exact⟨hc,[],sP⟩
  ·exact hc.elim
 ·exact hc.elim
def PS(G:Type)[Bl G]:List (bT G):=[⟨20,af,Gs⟩,⟨14,af,Kz⟩]
def ayh{G:Type}[Bl G]{gl:Nat->Option Nat}:aK du gl (PS G):=aK.cons ⟨agv,λ_=>agw⟩ (aK.cons ⟨ayf,λ_=>ayg⟩ aK.nil)
def PU{G:Type}:dm G:=λak bl ch K=>match ak with
 |[]=>K (.bool af) bl ch
 |_=>False
def ayj{f:Nat}{C:Ctx Empty}(hP:C.P=du)(hT:∀f c,C.T f=aa c->Sound C.P C.gl f c)(hQ:nZ C)(hg:C.gl=cU)(h:∀K:VK Empty,K (.bool af) [] []->bz C 60 f [] [] [] (bG 0 K)){G:Type}[Bl G]{gl:Nat->Option Nat}:Sound (G:=G) du gl f PU:=by
 intro ak ae bl ch R ms w0 w K Gd hl S hc;unfold PU at hc;split at hc
 ·have:=Yq (C:=C) (f:=f) (ak:=[]) (args':=[]) (v0:=.bool af) hT hQ hg hl S [] sP [] rfl rfl rfl rfl (h _ ⟨rfl,rfl,[],rfl⟩);rw[hP]at this;refine this.mono ?_;rintro v w' ⟨rfl,S2⟩;exact⟨.bool af,[],bl,ch,by simp only[den],by simpa using hl,by simpa using S2,hc⟩
 ·exact hc.elim
def shn_25{G:Type}[Bl G]{gl:Nat->Option Nat}:Sound (G:=G) du gl 9 PU:=by
 refine ayj (C:=gM du cU (PS Empty) (Cp du) EM) rfl (ayh (gl:=cU)).T (ayh (gl:=cU)).Q rfl λK hK=>?_;have e:bz (gM du cU (PS Empty) (Cp du) EM) 60 9 [] [] [] (bG 0 K)=K (.bool af) [] []:=kR;rw[e];exact hK
end
end Go.Proofs.YtddcipamdggcnaaGreatDoor
