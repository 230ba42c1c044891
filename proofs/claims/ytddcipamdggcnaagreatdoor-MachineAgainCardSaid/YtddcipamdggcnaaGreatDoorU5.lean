/- Part 5 of the proof. -/
import Derived.Lib.BytesEntry
import Derived.Scope
import Derived.Test.YtddcipamdggcnaaGreatDoorU4
set_option linter.all false
set_option maxRecDepth 100000
set_option maxHeartbeats 4000000
noncomputable section
open Sd(Label Un WN WO WT X4 aM aQ aX az ca fC fK fg gL kx)
open Go.Proofs.Tryz
open Go.Proofs.Tryz renaming prog->du
open Go.IntKind (u8 u16 u32 u64 i64)
open Array renaming toList_append->GB,ext'->fP,getD_eq_getD_getElem?->jO,length_toList->w7,replicate->zL
open BitVec renaming toNat_ofInt->K1,ofInt->qt
open Bool renaming true->af,false->ah,and_eq_true->bJ,not_eq_true'->pj
open Go renaming Oper->aA,Addr->aF,Program->aL,TypeId->aP,Value->aj,World->an,Operand->bA,run_underlying->dF,Exit->dR,Code->eZ,FuncId->fG,IntKind->gw,wp_ret->jC,wp_block->kZ,heap_alloc_new->oB,sizeOf->qp
open Go.Addr renaming add_lit->iY
open Go.Builtin renaming append_->nJ,zeroCells->rD
open Go.Deferred renaming ofValue->ahb
open Go.Fence renaming wide->Qd
open Go.Instr renaming storeAt->Gz,makeSlice->La,buildSlice->Za,sureAddr->jt,loadAt->qq
open Go.IntKind renaming wrap_u16->Zh
open Go.Lib renaming indexByte->Zg
open Go.Oper renaming wp->rz
open Go.Region renaming wanted->gU
open Go.Result renaming andThen_ok->cD,andThen->ju
open Go.Sem renaming run_bind->bH,run_pure->de
open Go.Src renaming ofSlice->qu
open Go.Value renaming int->fI,slice->tj
open Go.World renaming cell?->zK
open Int renaming ofNat->dS,toNat_natCast->tf,le_refl->uy
open List renaming pairwise_cons->BB,getElem?_of_mem->DP,pairwise_append->DQ,length_map->GA,flatMap_def->GF,length_filter_le->Lc,take_length->Le,take_zero->Qe,length_singleton->Zb,append_assoc->bZ,range->bg,mem_cons->cG,append_nil->cy,mem_append->dV,countP_append->ee,length_append->fH,cons_append->fe,nil_append->fu,getElem?_append_left->gB,getD->gh,map_cons->gx,getElem?_toArray->j7,countP_cons->j9,getElem?_eq_none->jA,take_append_drop->jR,mem_singleton->jS,length_cons->jv,getElem?_map->kA,mem_append_left->kB,sublist_append_right->kM,eq_nil_of_length_eq_zero->kX,perm_middle->kY,map_map->lN,Perm->lO,countP_nil->lQ,map_congr_left->mB,replicate->oE,mem_append_right->oF,getElem?_range->pr,not_mem_nil->py,mem_cons_of_mem->qA,getD_eq_getElem?_getD->qx,range_succ_eq_map->ta,nodup_cons->uo,getElem?_append_right->vI,range_succ->vK,flatMap_append->vL,foldl_cons->xg,mem_cons_self->xk
open List.Perm renaming append_right->BA,append_left->j8,cons->vJ,trans->xm,refl->zM
open List.Sublist renaming cons->Qf,append_right->Zd,append_left->mV,cons_cons->xn
open Nat renaming le_add_right->Zf,beq->aC,add_sub_cancel_left->ag6,le_refl->cW,ble->ck,eq_of_beq_eq_true->cw,zero_add->d_,lt_or_ge->di,blt->dq,le_of_ble_eq_true->eU,le_trans->h_,blt_eq->jQ,add_zero->lM,add_mul->oD,zero_le->oG,eq_zero_or_pos->uu,beq_refl->uv,add_assoc->ux
open Option renaming some->aa,none->ag,map_eq_some_iff->jr,map_some->pk
open Option.some renaming injEq->a_,inj->cP
open Prod.mk renaming injEq->bI
open UInt8 renaming ofNat->Lg
open Go Go.RowKit Go.BigFrame Sx Vx
namespace Sx
def St.dup{ms:List Nat}{w0 w:an}{bs:List av}{b:av}(S:St ms w0 bs w)(hb:b∈bs)(hw:b.wr=ah):St ms w0 (b::bs) w:=by
 refine St.mk' S.ch ?_ ?_ ?_
 ·intro x hx;rcases cG.1 hx with rfl|hx
  ·exact S.at' hb
  ·exact S.at' hx
 ·intro x hx h;rcases cG.1 hx with rfl|hx
  ·rw[hw]at h;cases h
  ·exact S.nN hx h
 ·refine BB.2 ⟨?_,S.pw⟩;intro y hy;obtain⟨i,hi⟩:=DP hb;obtain⟨j,hj⟩:=DP hy;intro h;have WW:y.wr=af:=by
   rcases h with h|h
   ·rw[hw]at h;cases h
   ·exact h
  have c_:j≠i:=λe=>by
   rw[e,hi]at hj;have:=cP hj;rw[this]at hw;rw[hw]at WW;cases WW
  exact(S.apart j i y b hj hi c_ WW).symm
end Sx
namespace Go.Proofs.YtddcipamdggcnaaGreatDoor
variable{fr:aQ->Nat×az}
def wP(ic:Nat)(G:ew):VB:=⟨ah,⟨90,(0,0)⟩,[.ptr ic 0,.int .i64 0,.raw (.pointer (aa ⟨G.a 0,0,ag⟩)),.raw (.pointer (aa ⟨G.a 1,0,ag⟩)),.raw (.pointer (aa ⟨G.a 2,0,ag⟩))]⟩
def jZ(k:LK)(s:Sd.ai)(G:ew):List VB:=[cx k,g_ k,fM k 3 s,fA s,wP 2 G]
structure eY(fr:aQ->Nat×az) where
 k:LK
 s:Sd.ai
 F:bx fr (bd k s)
 fB:List av
 G:ew
 ic:Nat
 it:Nat
def eY.cB(m:eY fr):List av:=(lits [0,1,m.ic,m.it] [0,1,m.ic,m.it] (dG m.k m.s)).drop 2
def eY.B(m:eY fr):List av:=m.cB++(m.F.B++(m.fB++m.G.B))
def eY.R(m:eY fr):VB:=⟨ah,⟨90,(0,0)⟩,[.raw (.pointer (aa ⟨m.ic,0,ag⟩)),.int .i64 0,.raw (.pointer (aa ⟨m.G.a 0,0,ag⟩)),.raw (.pointer (aa ⟨m.G.a 1,0,ag⟩)),.raw (.pointer (aa ⟨m.G.a 2,0,ag⟩))]⟩
inductive LG(fr:aQ->Nat×az) where
 |br (u:an)
 |core (g:Gh fr) (fB:List av)
 |row (r:bD)
 |yl (y:YG)
 |b8 (b:dD)
 |ou (l:List dD)
 |rd (r:jy)
 |mu (s:ew)
 |gu (m:eY fr)
 |hJ (l:List jz)
instance:Bl (LG fr):=⟨λg=>match g with|.br u=>cA u|.core g fB=>g.F.B++fB|.row r=>r.bl|.yl y=>y.B|.b8 b=>b.B|.ou l=>lA l|.rd r=>r.B|.mu s=>s.B|.gu m=>m.B|.hJ l=>ni l⟩
def Dn:List (LG fr)->Option (List (LG fr)×YG)
 |[]=>ag
 |[.yl y]=>aa ([],y)
 |g::l=>(match Dn l with|some (p,y)=>aa (g::p,y)|none=>ag)
def aeV:∀(ch p:List (LG fr))(y:YG),Dn ch=aa (p,y)->ch=p++[.yl y]
 |[],_,_,h=>by simp[Dn]at h
 |[g],p,y,h=>by
  cases g<;>simp[Dn]at h;obtain⟨rfl,rfl⟩:=h;rfl
 |g::g2::l,p,y,h=>by
  have e:Dn (g::g2::l)=(match Dn (g2::l)with|some (p,y)=>aa (g::p,y)|none=>ag):=by cases g<;>rfl
  rw[e]at h;split at h
  ·rename_i p' y' hy;simp only[a_,bI]at h;obtain⟨rfl,rfl⟩:=h;rw[aeV _ _ _ hy];rfl
  ·cases h
instance:Au (LG fr):=⟨.yl,Dn,λ_=>rfl,aeV⟩
mutual
def iV(n:Nat):V->V
 |.ptr i o=>.ptr (i+n) o
 |.sl i o m c=>.sl (i+n) o m c
 |.dB i o m c x=>.dB (i+n) o m c x
 |.pe i o j z k=>.pe (i+n) o j z k
 |.fn f a b=>.fn f (rk n a) (rk n b)
 |.nT t v=>.nT t (iV n v)
 |.agg l=>.agg (rk n l)
 |.aD l=>.aD (rk n l)
 |v=>v
def rk(n:Nat):List V->List V
 |[]=>[]
 |v::l=>iV n v::rk n l
end
def OP{ae xs:List Nat}(i:Nat):(ae++xs).getD (i+ae.length) 0=xs.getD i 0:=by
 simp[gh,vI (show ae.length<=i+ae.length by omega)]
mutual
theorem Dp{ae xs:List Nat}:∀v:V,den (ae++xs) (iV ae.length v)=den xs v
 |.ptr i _=>by simp only[iV,den,OP]
 |.sl i _ _ _=>by simp only[iV,den,OP]
 |.dB i _ _ _ _=>by simp only[iV,den,OP]
 |.pe i _ _ _ _=>by simp only[iV,den,OP]
 |.fn _ a b=>by simp only[iV,den,OQ a,OQ b]
 |.nT _ v=>by simp only[iV,den,Dp v]
 |.agg l=>by simp only[iV,den,WX l]
 |.aD l=>by simp only[iV,den,OQ l]
 |.int _ _=>by simp[iV,den]
 |.bool _=>by simp[iV,den]
 |.cu _ _ _=>by simp[iV,den]
 |.arr _ _ _=>by simp[iV,den]
 |.fi _ _ _ _=>by simp[iV,den]
 |.rest _=>by simp[iV,den]
 |.gm _ _ _=>by simp[iV,den]
 |.raw _=>by simp[iV,den]
theorem OQ{ae xs:List Nat}:∀l:List V,aJ (ae++xs) (rk ae.length l)=aJ xs l
 |[]=>by simp[rk,aJ]
 |v::l=>by simp only[rk,aJ,Dp v,OQ l]
theorem WX{ae xs:List Nat}:∀l:List V,ao (ae++xs) (rk ae.length l)=ao xs l
 |[]=>by simp[rk,ao]
 |v::l=>by
  simp only[rk,ao,WX l];congr 1;have h:=Dp (ae:=ae) (xs:=xs) v;cases v<;>simp only[iV,cl]at h⊢<;>first|rfl|rw[h]
end
def A6(n:Nat):List VB->List VB
 |[]=>[]
 |b::l=>⟨b.wr,b.ty,rk n b.c⟩::A6 n l
def aeW(n:Nat):∀l:List VB,(A6 n l).length=l.length
 |[]=>rfl
 |_::l=>by simp[A6,aeW n l]
def aeX{ae xs:List Nat}:∀(is:List Nat)(bl:List VB),lits (ae++xs) is (A6 ae.length bl)=lits xs is bl
 |[],_=>by simp[lits]
 |_::_,[]=>by simp[lits,A6]
 |i::is,b::bl=>by
  simp only[A6,lits,aeX is bl];unfold aI;simp only[WX]
abbrev JL(fr:aQ->Nat×az)(k:LK):=V->(s':Sd.ai)->bx fr (bd k s')->List av->List VB->Prop
abbrev LM(fr:aQ->Nat×az):=List V->(k:LK)->(s:Sd.ai)->bx fr (bd k s)->JL fr k->Prop
def jq(bl:List VB)(ic it:Nat)(k:LK)(s:Sd.ai):List VB:=(bl.set ic (fM k it s)).set it (fA s)
def zi(M:an->LM fr):dm (LG fr):=λak bl ch K=>match ak,ch with
 |.ptr ic 0::ar,.br u::.core g fB::rest=>(match bl[ic]?with
  |some ⟨af,⟨131,(0,0)⟩,cc⟩=>(match CT cc with
   |some x=>(match bl[x.it]?with
    |some ⟨af,⟨181,(0,0)⟩,tc⟩=>(match tZ tc with
     |some y=>cond (bF 0 ar&&(bY bl.length bl&&(dq 1 ic&&(dq 1 x.it&&!(aC ic x.it)))))
      ((bl[0]?=aa (cx g.d.k)/\bl[1]?=aa (g_ g.d.k)/\x=nr g.d.k x.it (gG x y g.d g.dx g.sx)/\y.b=x.p.da/\y.m=x.p.jk/\x.p.queue=g.d.k.most)/\
        M u ar g.d.k (gG x y g.d g.dx g.sx) g.F λvv s' F' fn ex=>K (iV bl.length vv) (jq bl ic x.it g.d.k s'++ex) (.br u::.core (bj g.d.k s' F') (fn++fB)::rest)) False
     |none=>False)
    |_=>False)
   |none=>False)
  |_=>False)
 |_,_=>False
abbrev dc(a b:Nat):List Nat:=[0,1,a,b]
def zj(f:fG)(M:an->LM fr):Prop:=∀(u:an)(ar:List V)(k:LK)(s:Sd.ai)(F:bx fr (bd k s))(Kb:JL fr k)(a b:Nat)(R:List av)(ms:List Nat)(w0 w:an),bF 0 ar=af->s.c.p.queue=k.most->M u ar k s F Kb->
 St ms w0 (lits (dc a b) (dc a b) (dG k s)++(F.B++(cA u++R))) w->
 ba du f (aJ (dc a b) (.ptr 2 0::ar)).toArray w λv w'=>∃(vv:V)(s':Sd.ai)(F':bx fr (bd k s'))(fn:List av)(ex:List VB)(xs:List Nat),xs.length=ex.length/\den xs vv=v/\bY 0 ex=af/\Kb vv s' F' fn ex/\
  St ms w0 (lits (dc a b) (dc a b) (dG k s')++(lits xs xs ex++(F'.B++(fn++(cA u++R))))) w'
def OR{ae:List Nat}{it a b:Nat}(n:Nat){k:LK}{s:Sd.ai}(h:ae.getD it 0=b):aI ae n (fM k it s)=aI (dc a b) n (fM k 3 s):=by
 have e:(dc a b).getD 3 0=b:=rfl;simp only[aI,fM,CS,nr,ao,cl,den,h,e]
structure JM(bl:List VB)(ic it:Nat)(k:LK)(s:Sd.ai):Prop where
 h0:bl[0]?=aa (cx k)
 h1:bl[1]?=aa (g_ k)
 hc:bl[ic]?=aa (fM k it s)
 ht:bl[it]?=aa (fA s)
def OS{ae:List Nat}{bl:List VB}{ic it:Nat}{k:LK}{s:Sd.ai}(H:JM bl ic it k s)(hg:Gl gS ae):
 ([0,1,ic,it].map λj=>aI ae (ae.getD j 0) (bl.getD j fp))=lits (dc (ae.getD ic 0) (ae.getD it 0)) (dc (ae.getD ic 0) (ae.getD it 0)) (dG k s):=by
 have g0:=(hg 0 0 rfl).2;have g1:=(hg 1 1 rfl).2;simp only[gx,List.map_nil,lF H.h0,lF H.h1,lF H.hc,lF H.ht,g0,g1,dG,lits];rw[jL (ids':=dc (ae.getD ic 0) (ae.getD it 0)) (CU k),jL (ids':=dc (ae.getD ic 0) (ae.getD it 0)) (Vj k),jL (ids':=dc (ae.getD ic 0) (ae.getD it 0)) (yQ s),
  OR (a:=ae.getD ic 0) _ rfl]
def aeY{bl:List VB}{ic it:Nat}{k:LK}{s:Sd.ai}(H:JM bl ic it k s)(h2:1<ic)(h3:1<it)(n3:ic≠it)(s':Sd.ai):JM (jq bl ic it k s') ic it k s':=by
 have l2:=mj H.hc;have l3:=mj H.ht;unfold jq;refine⟨?_,?_,?_,?_⟩
 ·rw[oh oM,oh oM];exact H.h0
 ·rw[oh oM,oh oM];exact H.h1
 ·rw[oh oM,AV l2]
 ·rw[AV (by simpa using l3)]
def aeZ{bl:List VB}{ae r:List Nat}{a b:Nat}{x y:VB}(hr:∀j∈r,j≠a/\j≠b):
 (r.map λj=>aI ae (ae.getD j 0) (((bl.set a x).set b y).getD j fp))=r.map λj=>aI ae (ae.getD j 0) (bl.getD j fp):=by
 apply mB;intro j hj;obtain⟨h1,h2⟩:=hr j hj;simp only[gh,List.getElem?_set];rw[if_neg (Ne.symm h2),if_neg (Ne.symm h1)]
def JN{n:Nat}{b:VB}(hb:bF n b.c=af):∀(bl:List VB)(i:Nat),bY n bl=af->bY n (bl.set i b)=af
 |[],_,_=>by simp[bY]
 |c::l,0,h=>by simp only[bY,bJ,List.set_cons_zero]at h⊢;exact⟨hb,h.2⟩
 |c::l,i+1,h=>by simp only[bY,bJ,List.set_cons_succ]at h⊢;exact⟨h.1,JN hb l i h.2⟩
def Dq{ae ids':List Nat}:∀(xs:List Nat)(ex:List VB),bY 0 ex=af->lits ae xs ex=lits ids' xs ex
 |[],_,_=>by simp[lits]
 |_::_,[],_=>by simp[lits]
 |i::is,b::bl,h=>by
  simp only[bY,bJ]at h;simp only[lits];rw[jL (ids':=ids') h.1,Dq is bl h.2]
def ae0{f:Nat}{M:an->LM fr}(h:zj f M):Sound du gS f (zi M):=by
 intro ak ae bl ch R ms w0 w K hg hl S hc;unfold zi at hc;split at hc
 ·rename_i ic ar u g fB rest;split at hc
  ·rename_i cc vY;split at hc
   ·rename_i x hx;split at hc
    ·rename_i tc t_;split at hc
     ·rename_i y hy;cases hq:bF 0 ar&&(bY bl.length bl&&(dq 1 ic&&(dq 1 x.it&&!(aC ic x.it))))with
      |false=>rw[hq]at hc;exact hc.elim
      |true=>
       rw[hq]at hc;simp only[bJ,pj,jQ]at hq;obtain⟨q0,qw,q2,q3,q6⟩:=hq;have n3:ic≠x.it:=λe=>by rw[e,uv]at q6;cases q6
       obtain⟨⟨e3,e4,e5,e6,e7,e8⟩,hM⟩:=hc;obtain rfl:=I2 hx;obtain rfl:=yO hy;have H:JM bl ic x.it g.d.k (gG x y g.d g.dx g.sx):=by
        refine⟨e3,e4,?_,?_⟩
        ·rw[vY];congr 1;unfold fM;rw[<-e5]
        ·rw[t_];congr 1;unfold fA;have:y=wA (gG x y g.d g.dx g.sx):=by
          obtain⟨y1,y2,y3,y4,y5,y6,y7,y8⟩:=y;simp only at e6 e7;subst e6 e7;rfl
         rw[<-this]
       have l2:=mj H.hc;have l3:=mj H.ht;obtain⟨r,hr,hp⟩:=Fo (bl:=bl) (ae:=ae) hl (is:=[0,1,ic,x.it]) (by simp;omega) (by
        intro i hi;simp only[cG,py,or_false]at hi;rcases hi with rfl|rfl|rfl|rfl<;>omega)
       have kJ:=hp bl rfl;rw[OS H hg]at kJ;have S1:=S.perm (bs':=lits (dc (ae.getD ic 0) (ae.getD x.it 0)) (dc (ae.getD ic 0) (ae.getD x.it 0)) (dG g.d.k (gG x y g.d g.dx g.sx))++(g.F.B++(cA u++((r.map λj=>aI ae (ae.getD j 0) (bl.getD j fp))++(fB++ax rest R))))) (by
        refine(kJ.append_right _).trans ?_;rw[bZ];refine j8 _ ?_;show((r.map λj=>aI ae (ae.getD j 0) (bl.getD j fp))++(cA u++((g.F.B++fB)++ax rest R))).Perm _;exact dW λf=>by simp only[ee];omega)
       have ve:=h u ar g.d.k (gG x y g.d g.dx g.sx) g.F _ _ _ _ ms w0 w q0 e8 hM S1;have cN:aJ ae (.ptr ic 0::ar)=aJ (dc (ae.getD ic 0) (ae.getD x.it 0)) (.ptr 2 0::ar):=by
        have a1:aJ ae ar=aJ [] ar:=by have:=pL (ae:=[]) (aq:=ae) ar q0;simpa using this
        have a2:aJ (dc (ae.getD ic 0) (ae.getD x.it 0)) ar=aJ [] ar:=by have:=pL (ae:=[]) (aq:=dc (ae.getD ic 0) (ae.getD x.it 0)) ar q0;simpa using this
        simp only[aJ,den,a1,a2];rfl
       rw[cN];refine ve.mono ?_;rintro v w' ⟨vv,s',F',fn,ex,xs,fV,JO,vt,hK,S2⟩;refine⟨iV bl.length vv,xs,jq bl ic x.it g.d.k s'++ex,.br u::.core (bj g.d.k s' F') (fn++fB)::rest,?_,?_,?_,hK⟩
       ·rw[<-hl,Dp];exact JO.symm
       ·simp[jq,hl,fV]
       ·have H':=aeY H q2 q3 n3 s';have vf:=hp (jq bl ic x.it g.d.k s') (by simp[jq]);rw[OS H' hg]at vf;have I3:(r.map λj=>aI ae (ae.getD j 0) ((jq bl ic x.it g.d.k s').getD j fp))=r.map λj=>aI ae (ae.getD j 0) (bl.getD j fp):=by
         unfold jq;refine aeZ ?_;intro j hj;have:=hr j hj;simp only[cG,py,or_false,not_or]at this;omega
        rw[I3]at vf;have cK:ae.length=(jq bl ic x.it g.d.k s').length:=by simp[jq,hl]
        have JQ:bY ae.length (jq bl ic x.it g.d.k s')=af:=by
         unfold jq;rw[<-hl]at qw l3;refine JN ?_ _ _ (JN ?_ _ _ qw)
         ·exact xW (oG _) _ (yQ s')
         ·simp only[fM,CS,nr,bF,dg,bJ,jQ,Bool.true_and,Bool.and_true];exact l3
        rw[fw _ _ _ _ cK,fy _ _ JQ,Dq (ids':=xs) xs ex vt];refine S2.perm ?_;show lO _ ((lits ae ae (jq bl ic x.it g.d.k s')++lits xs xs ex)++(cA u++((F'.B++(fn++fB))++ax rest R)));refine xm ?_ ((vf.symm.append_right _).append_right _);exact dW λf=>by simp only[ee];omega
     ·exact hc.elim
    ·exact hc.elim
   ·exact hc.elim
  ·exact hc.elim
 ·exact hc.elim
def OT{f:Nat}{M:an->LM fr}(h:zj f M):wb du gS ⟨f,ah,zi M⟩:=⟨ae0 h,λe=>by cases e⟩
end Go.Proofs.YtddcipamdggcnaaGreatDoor
namespace Sx
def St.mP{ms:List Nat}{w0 w:an}{b:av}{bs:List av}(S:St ms w0 (b::bs) w):St ms w0 (⟨b.id,ah,b.obj⟩::bs) w:=by
 refine St.mk' S.ch ?_ ?_ ?_
 ·intro x hx;rcases cG.1 hx with rfl|hx
  ·exact S.at' (x:=b) (xk)
  ·exact S.at' (qA _ hx)
 ·intro x hx h;rcases cG.1 hx with rfl|hx
  ·cases h
  ·exact S.nN (qA _ hx) h
 ·have:=BB.1 S.pw;refine BB.2 ⟨?_,this.2⟩;intro y hy h;refine this.1 y hy ?_;rcases h with h|h
  ·cases h
  ·exact .inr h
end Sx
namespace Go.Proofs.YtddcipamdggcnaaGreatDoor
variable{fr:aQ->Nat×az}
def fE(s:Sd.ai):Sd.ai:=⟨s.c,[],[]⟩
def fZ(l:List Sd.Rec)(j:Nat):List aj:=[.int .i64 (l.getD j default).kind,.int .i64 (l.getD j default).source,.int .i64 (l.getD j default).seq,.int .i64 (l.getD j default).au,.int .i64 (l.getD j default).code,.int .i64 (l.getD j default).how]
def Dr:∀(l:List Sd.Rec),(bg l.length).flatMap (fZ l)=gz l
 |[]=>rfl
 |r::l=>by
  rw[jv,ta,List.flatMap_cons,List.flatMap_map];have e:(λj=>fZ (r::l) (Nat.succ j))=fZ l:=by funext j;rfl
  rw[e,Dr l];rfl
def jf(ty:aP)(z n:Nat)(g:Nat->List aj)(us:List aj):VB:=⟨ah,ty,[.gm z n g,.rest us]⟩
def FT(ae:List Nat)(ty z n:Nat)(g:Nat->List aj)(us:List aj):ao ae (jf ty z n g us).c=(bg n).flatMap g++us:=by
 simp only[jf,ao,cl,cy]
structure lh where
 x:Option aF
 n:Nat
 c:Nat
def lK(l:List (Int×aQ))(fv:Nat->lh)(j:Nat):List aj:=[.int .i64 (l.getD j default).1,.slice (fv j).x (fv j).n (fv j).c]
def vz(fr:aQ->Nat×az)(l:List (Int×aQ))(fv:Nat->lh)(fn:List av):Prop:=∀j,j<l.length->∃x c b,fv j=⟨x,(fr (l.getD j default).2).1,c⟩/\ff 5 (fr (l.getD j default).2).1 (fr (l.getD j default).2).2 x c b/\∀y∈b,y∈fn
def auD{l:List (Int×aQ)}{so:List aj}{B:List av}(h:CR fr l so B):∃fv,so=(bg l.length).flatMap (lK l fv)/\vz fr l fv B:=by
 induction h with
 |nil=>exact⟨λ_=>⟨ag,0,0⟩,rfl,λj hj=>absurd hj sP⟩
 |@snoc l bw bl h k r x c b hb ih=>
  obtain⟨fv,e,hf⟩:=ih;refine⟨λj=>if j=l.length then⟨x,(fr r).1,c⟩else fv j,?_,?_⟩
  ·rw[fH,Zb,vK,vL,e];congr 1
   ·simp only[GF];congr 1;apply mB;intro j hj;have hj:=List.mem_range.1 hj;unfold lK;dsimp only;rw[if_neg (show¬j=l.length by omega),qx,qx,gB hj]
   ·simp[lK,gh]
  ·intro j hj;by_cases h1:j=l.length
   ·subst h1;have e2:(l++[(k,r)]).getD l.length default=(k,r):=by simp[gh]
    rw[e2];exact⟨x,c,b,sP,hb,λy hy=>by simp[hy]⟩
   ·have zT:j<l.length:=by simp at hj;omega
    obtain⟨x',c',b',h2,h3,h4⟩:=hf j zT;have e2:(l++[(k,r)]).getD j default=l.getD j default:=by rw[qx,qx,gB zT]
    rw[e2];exact⟨x',c',b',by simp only[if_neg h1];exact h2,h3,λy hy=>by simp[h4 y hy]⟩
def ae1(s:Sd.ai)(vs vr:V):V:=.agg [.int .i64 s.c.mode,.int .i64 s.c.pt.cls,.int .i64 s.c.pt.now.a,.int .i64 s.c.pt.now.b,.int .i64 s.c.pt.now.c,.int .i64 s.c.pt.now.d,.int .i64 s.c.gW.na,.int .i64 s.c.gW.source,.int .i64 s.c.gW.seq,
 .int .i64 s.c.pt.ct.na,.int .i64 s.c.pt.ct.source,.int .i64 s.c.pt.ct.seq,vs,vr,.cu .u8 32 s.c.head]
structure TR where
 xs:Option aF
 cs:Nat
 ts:Nat
 us:List aj
 fv:Nat->lh
 xr:Option aF
 cr:Nat
 tr:Nat
 ur:List aj
def TR.sB(r:TR)(s:Sd.ai):VB:=jf r.ts 2 s.bE.length (lK s.bE r.fv) r.us
def TR.rB(r:TR)(s:Sd.ai):VB:=jf r.tr 6 s.aY.length (fZ s.aY) r.ur
def TR.v(r:TR)(s:Sd.ai)(i:Nat):V:=ae1 s (.dB i 0 s.bE.length r.cs r.xs) (.dB (i+1) 0 s.aY.length r.cr r.xr)
def Ds(k:LK)(sv:Sd.ai)(K:JL fr k):Prop:=∀(s':Sd.ai),s'=sv->∀(r:TR)(fn:List av)(F0:bx fr (bd k (fE s'))),cC=F0.vs->cC=F0.vr->vz fr s'.bE r.fv fn->K (r.v s' 0) (fE s') F0 fn [r.sB s',r.rB s']
def auE{k:LK}{s':Sd.ai}(F':bx fr (bd k s')):∃F0:bx fr (bd k (fE s')),cC=F0.vs/\cC=F0.vr/\F0.B=F'.Bq++F'.Bk:=
 ⟨⟨ag,0,ag,0,F'.Bq,[],[],[],F'.Bk,[],F'.hq,pF 6 64,pF 2 61,.nil,F'.hk⟩,rfl,rfl,rfl⟩
def WY{ms:List Nat}{w0 w:an}{z T n c:Nat}{bw:List aj}{x:Option aF}{B R:List av}{k:LK}{g:Nat->List aj}(h:dk z T bw x n c B)(S:St ms w0 (B++R) w)(lH:(⟨0,ah,.cells (ao [] (cx k).c).toArray k.tg (0,0)⟩:av)∈R)(hg:bw=(bg n).flatMap g):
 ∃(i ty:Nat)(us:List aj),tj x n c=.slice (bif aC n 0 then x else aa ⟨i,0,ag⟩) n c/\St ms w0 (⟨i,ah,.cells ((bg n).flatMap g++us).toArray ty (0,0)⟩::R) w:=by
 rcases h.2.2 with⟨rfl,rfl,rfl,rfl⟩|⟨b,tail,rfl,rfl,_⟩
 ·exact⟨0,k.tg,ao [] (cx k).c,rfl,by simpa using S.dup lH rfl⟩
 ·refine⟨b,T,tail,?_,?_⟩
  ·cases aC n 0<;>rfl
  ·rw[<-hg];exact S.mP
def OU{f n:Nat}{M:an->LM fr}{L:List (bT (Gh fr))}(hL:aK du gS L)
 (h:∀(u:an)(ar:List V)(k:LK)(s:Sd.ai)(F:bx fr (bd k s))(Kb:JL fr k),bF 0 ar=af->s.c.p.queue=k.most->M u ar k s F Kb->bz (bU du gS L) n f (.ptr 2 0::ar) (dG k s) [bj k s F] (vw k s λs' F'=>Ds k s' Kb)):zj f M:=by
 intro u ar k s F Kb a b R0 ms w0 w h0 hq hM S;generalize hR:cA u++R0=R at S⊢;have hg:Gl gS (dc a b):=by
  intro g i dz;unfold gS at dz;split at dz
  ·obtain rfl:=cP dz;exact⟨sP,rfl⟩
  ·obtain rfl:=cP dz;exact⟨sP,rfl⟩
  ·cases dz
 refine(eO hL.T hL.Q n (C:=bU du gS L) (ae:=dc a b) (bl:=dG k s) (ch:=[bj k s F]) (R:=R) (ms:=ms) (w0:=w0) (w:=w) hg rfl (by
  have e:ax [bj k s F] R=F.B++R:=rfl;rw[e];exact S) (h u ar k s F Kb h0 hq hM)).mono ?_
 rintro v w' ⟨x,aq,b9,ce,rfl,h1,S',s',F',rfl,hb,rfl,hT⟩;have hl4:(dG k s').length=4:=rfl;have qh:b9=dG k s'++b9.drop 4:=by rw[<-hb,jR]
 rw[qh]at S';have e2:lits (dc a b++aq) (dc a b++aq) (dG k s'++b9.drop 4)=lits (dc a b) (dc a b) (dG k s')++lits (dc a b++aq) aq (b9.drop 4):=by
  rw[fw _ _ _ _ (by rw[hl4];rfl)];rw[fy (ae:=dc a b) (aq:=aq) (dc a b) (dG k s') rfl]
 rw[e2]at S';obtain⟨F0,v1,v2,hB⟩:=auE F';have e3:ax [bj k s' F'] R=F'.Br++(F'.Bs++(F'.Bf++(F'.Bq++F'.Bk)))++R:=rfl;rw[e3]at S';have fR:dG k (fE s')=dG k s':=rfl;have S1:St ms w0 (F'.Br++(F'.Bs++(lits (dc a b) (dc a b) (dG k (fE s'))++(F0.B++(F'.Bf++R))))) w':=by
  rw[fR,hB];have S2:St ms w0 (lits (dc a b) (dc a b) (dG k s')++(F'.Br++(F'.Bs++(F'.Bf++(F'.Bq++F'.Bk)))++R)) w':=by
   refine S'.sub ?_;simp only[bZ];exact mV (kM _ _) _
  exact S2.perm (dW λf=>by simp only[ee];omega)
 have lH:(⟨0,ah,.cells (ao [] (cx k).c).toArray k.tg (0,0)⟩:av)∈lits (dc a b) (dc a b) (dG k (fE s')):=by
  have:aI (dc a b) 0 (cx k)=aI [] 0 (cx k):=jL (CU k);show _∈aI (dc a b) 0 (cx k)::_;rw[this];exact xk
 obtain⟨fv,hso,HK⟩:=auD F'.hf;have S2:=S1.perm (bs':=F'.Bs++(F'.Br++(lits (dc a b) (dc a b) (dG k (fE s'))++(F0.B++(F'.Bf++R))))) (dW λf=>by simp only[ee];omega);obtain⟨i1,t1,u1,q1,S3⟩:=WY (k:=k) F'.hs S2 (by simp[lH]) hso;have S3':St ms w0 (⟨i1,ah,.cells ((bg s'.bE.length).flatMap (lK s'.bE fv)++u1).toArray t1 (0,0)⟩::(F'.Br++(lits (dc a b) (dc a b) (dG k (fE s'))++(F0.B++(F'.Bf++R))))) w':=S3;have S4:=S3'.perm (bs':=F'.Br++(⟨i1,ah,.cells ((bg s'.bE.length).flatMap (lK s'.bE fv)++u1).toArray t1 (0,0)⟩::(lits (dc a b) (dc a b) (dG k (fE s'))++(F0.B++(F'.Bf++R))))) (dW λf=>by simp only[ee,j9];omega);obtain⟨i2,t2,u2,q2,S5⟩:=WY (k:=k) F'.hr S4 (by simp[lH]) (Dr s'.aY).symm
 let r:TR:=⟨F'.xs,F'.cs,t1,u1,fv,F'.xr,F'.cr,t2,u2⟩
 refine⟨_,_,F0,F'.Bf,_,[i1,i2],rfl,?_,rfl,hT _ rfl r F'.Bf F0 v1 v2 HK,?_⟩
 ·simp only[TR.v,ae1,rh,bx.vs,bx.vr,den,ao,cl];have e1:tj F'.xs (bd k s').bE.length F'.cs=_:=q1;have e2:tj F'.xr (bd k s').aY.length F'.cr=_:=q2;rw[e1,e2];rfl
 ·have e1:lits [i1,i2] [i1,i2] [r.sB s',r.rB s']=[⟨i1,ah,.cells ((bg s'.bE.length).flatMap (lK s'.bE fv)++u1).toArray t1 (0,0)⟩,⟨i2,ah,.cells ((bg s'.aY.length).flatMap (fZ s'.aY)++u2).toArray t2 (0,0)⟩]:=by
   simp only[lits,aI,TR.rB,TR.sB,FT,r];rfl
  rw[e1];have S6:St ms w0 (⟨i2,ah,.cells ((bg s'.aY.length).flatMap (fZ s'.aY)++u2).toArray t2 (0,0)⟩::(⟨i1,ah,.cells ((bg s'.bE.length).flatMap (lK s'.bE fv)++u1).toArray t1 (0,0)⟩::(lits (dc a b) (dc a b) (dG k (fE s'))++(F0.B++(F'.Bf++R))))) w':=S5;refine S6.perm ?_;exact dW λf=>by simp only[ee,j9,lQ];omega
structure ft(k:LK)(s:Sd.ai):Prop where
 i:Sd.Inv s.c
 x:Sd.Ext s.c
 key:∀i,i<4->1<=k.kn i/\k.kn i<=64
 ke:∀i,i<4->s.c.p.k i=(k.kn i,k.kf i)
 e1:s.bE=[]
 e2:s.aY=[]
def ft.rm{k:LK}{s:Sd.ai}(h:ft k s)(n:Nat)(hn:n<=1000):Rm s n:=⟨by rw[h.e1];simpa using hn,by rw[h.e2];simpa using hn⟩
def ft.tb{k:LK}{s:Sd.ai}(h:ft k s):TB s.c.t:=⟨h.i.tok.aS,h.i.mh⟩
def ft.tk{k:LK}{s:Sd.ai}(h:ft k s):TkP s where
 c:=⟨h.i.p,h.tb,h.x.t.oa.1,h.x.t.oa.2,h.x.t.la.1,h.x.t.la.2,by rcases h.i.tok.offer with e|e<;>omega,
  λa ha=>by
   obtain⟨_,h1,h2,_,_,h3,h4,h5⟩:=h.i.q.each a ha;have:=h.i.p.ask;exact⟨⟨oM,oM⟩,⟨oM,oM⟩,⟨oM,oM⟩⟩,
  ⟨h.x.pt.bC.1,h.x.pt.bC.2.1,h.x.pt.bC.2.2.1,h.x.pt.bC.2.2.2,h.x.pt.now.1,h.x.pt.now.2.1,h.x.pt.now.2.2.1,h.x.pt.now.2.2.2⟩⟩
 r:=h.rm 28 dC
 h:=h.x.ay.hi
 b:=⟨h.x.ay.st,h.x.ay.ss 0,h.x.ay.ss 1,h.x.ay.ss 2⟩
def WZ(C:aM):LM fr:=λar k s F K=>match ar with
 |[]=>(ft k s/\cC=F.vs/\cC=F.vr)/\Ds k (s.tick C) K
 |_=>False
def W0(C:aM):LM fr:=λar k s F K=>match ar with
 |[.bool b]=>(ft k s/\cC=F.vs/\cC=F.vr)/\Ds k (s.lT C b) K
 |_=>False
def W3(C:aM):LM fr:=λar k s F K=>match ar with
 |[.agg xl]=>(match Fe xl with
  |some x=>(ft k s/\cC=F.vs/\cC=F.vr)/\Ds k (s.iK C x) K
  |none=>False)
 |_=>False
def zk(C:aM)(s:Sd.ai)(l code:Int)(n:Nat)(f:az):Sd.ai:=if 1<=l/\l<=3 then s.item C l code n f else s
def ae2(C:aM):LM fr:=λar k s F K=>match ar with
 |[.int .i64 l,.agg [.int .i64 code,.raw vp]]=>(ft k s/\cC=F.vs/\cC=F.vr/\vp=fq k/\k.pn<=58/\By k.pf)/\Ds k (zk C s l code k.pn k.pf) K
 |_=>False
def OV{k:LK}{s:Sd.ai}{F:bx fr (bd k s)}(hq:s.c.p.queue=k.most)(h1:cC=F.vs)(h2:cC=F.vr):JD k s F:=⟨h1,h2,rfl,rfl,rfl,rfl,rfl,hq⟩
section
variable(k:LK)(s:Sd.ai)(F:bx fr (bd k s))(Kb:(s':Sd.ai)->bx fr (bd k s')->Prop)
def auF(C:aM):bz (bU du gS (LC fr C)) 60 35 [.ptr 2 0] (dG k s) [bj k s F] (vw k s Kb)=vw k s Kb (.agg (rh s cC cC)) (dG k s) [bj k s F]:=kR
end
end Go.Proofs.YtddcipamdggcnaaGreatDoor
namespace Go.Proofs.YtddcipamdggcnaaGreatDoor
section
variable{fr:aQ->Nat×az}
section
variable(ht:Body (fr:=fr) 124 dE)
include ht
def auG:zj (fr:=fr) 58 (λ_=>WZ (aO aU)):=by
 refine OU (n:=60) (atQ ht) ?_;intro u ar k s F Kb h0 hq hM;unfold WZ at hM;split at hM
 ·rw[atV];exact⟨OV hq hM.1.2.1 hM.1.2.2,nv (M:=FM (aO aU)) ⟨hM.1.1.tk,λF'=>⟨_,F',rfl,rfl,rfl,hM.2⟩⟩⟩
 ·exact hM.elim
def auH:zj (fr:=fr) 57 (λ_=>W0 (aO aU)):=by
 refine OU (n:=60) (atT ht) ?_;intro u ar k s F Kb h0 hq hM;unfold W0 at hM;split at hM
 ·rename_i b;rw[atW];exact⟨OV hq hM.1.2.1 hM.1.2.2,nv (M:=FA (aO aU)) ⟨⟨hM.1.1.rm 8 dC,hM.1.1.tb⟩,λF'=>⟨_,F',rfl,rfl,rfl,hM.2⟩⟩⟩
 ·exact hM.elim
def auI:zj (fr:=fr) 56 (λ_=>W3 (aO aU)):=by
 refine OU (n:=60) (atS ht) ?_;intro u ar k s F Kb h0 hq hM;unfold W3 at hM;split at hM
 ·rename_i xl;split at hM
  ·rename_i x hx;obtain rfl:=No hx;rw[atX];have hb:cq s.c.samples:=⟨by have:=hM.1.1.i.samples;omega,by have:=hM.1.1.i.samples;omega⟩;refine⟨OV hq hM.1.2.1 hM.1.2.2,nv (M:=Fy (aO aU)) ?_⟩;show(Jd s/\cq s.c.samples/\cq s.c.beyond)/\_;exact⟨⟨⟨hM.1.1.rm 8 dC,hM.1.1.i.p,hM.1.1.tb⟩,hb,hM.1.1.x.be⟩,λF'=>⟨_,F',rfl,rfl,rfl,hM.2⟩⟩
  ·exact hM.elim
 ·exact hM.elim
def auJ:zj (fr:=fr) 55 (λ_=>ae2 (aO aU)):=by
 refine OU (n:=60) (atU ht) ?_;intro u ar k s F Kb h0 hq hM;unfold ae2 at hM;split at hM
 ·rename_i l code vp;have hC:=hM.1.1;have v1:=hM.1.2.1;have v2:=hM.1.2.2.1;have p1:=hM.1.2.2.2.2.1;have p2:=hM.1.2.2.2.2.2;have hT:=hM.2;rw[hM.1.2.2.2.1,atY];unfold aeF;have iL:¬(1<=l/\l<=3)->vw k s (λs' F'=>Ds k s' Kb) (.agg (rh s cC cC)) (dG k s) [bj k s F]:=λh=>⟨s,F,by rw[<-v1,<-v2],rfl,rfl,by unfold zk at hT;rw[if_neg h]at hT;exact hT⟩;refine aN (λe1=>aN (λe2=>?_) (λe2=>iL (by simp at e1 e2;omega))) (λe1=>iL (by simp at e1;omega));have hl:1<=l/\l<=3:=by simp at e1 e2;omega
  unfold zk at hT;rw[if_pos hl]at hT;have hd:∀i,i<3->(s.c.doors i).many<=9223372036854775807:=λi _=>by have:=hC.x.d i;omega
  exact⟨OV hq v1 v2,nv (M:=FJ (aO aU)) ⟨⟨rfl,⟨hC.rm 8 dC,hC.i,hl,hd,hC.key,hC.ke,p1,p2⟩⟩,λF'=>⟨_,F',rfl,rfl,rfl,hT⟩⟩⟩
 ·exact hM.elim
end
def ov(l:List Sd.Ask)(j:Nat):List aj:=[.int .i64 (l.getD j default).source]
def ae3:∀(l:List Sd.Ask)(ae:List Nat),(bg l.length).flatMap (ov l)=ao ae (vx l)
 |[],_=>rfl
 |r::l,ae=>by
  rw[jv,ta,List.flatMap_cons,List.flatMap_map];have e:(λj=>ov (r::l) (Nat.succ j))=ov l:=by funext j;rfl
  rw[e,ae3 l ae];rfl
def auK(k:LK)(s:Sd.ai)(F:bx fr (bd k s))(K:JL fr k):Prop:=
 ∀(x:Option aF)(c ty:Nat)(us:List aj),K (.agg (oZ s (.dB 0 0 s.c.q.length c x))) s F [] [jf ty 1 s.c.q.length (ov s.c.q) us]
def W4:LM fr:=λar k s F K=>match ar with
 |[]=>auK k s F K
 |_=>False
def auL(l:List Sd.Ask)(u:List aj):bY 0 [Dk l u]=af:=by
 have:∀l:List Sd.Ask,bF 0 (vx l++[.rest u])=af:=by
  intro l;induction l with
  |nil=>rfl
  |cons a l ih=>simp only[vx,fe,bF,dg,ih,Bool.and_self]
 simp only[bY,Dk,this,Bool.and_self]
def zl{Q:Prop}(hq:Q):∀(n j:Nat),n+j<=5->OF n j Q
 |0,_,_=>hq
 |n+1,j,h=>⟨trivial,⟨oM,oM⟩,trivial,trivial,zl hq n (j+1) oM⟩
def auM(ht:Body (fr:=fr) 124 dE):zj (fr:=fr) 37 (λ_=>W4 (fr:=fr)):=by
 intro u0 ar k s F Kb a b R0 ms w0 w h0 hq hM S;generalize hR:cA u0++R0=R at S⊢;unfold W4 at hM;split at hM
 ·have hg:Gl gS (dc a b):=by
   intro g i dz;unfold gS at dz;split at dz
   ·obtain rfl:=cP dz;exact⟨sP,rfl⟩
   ·obtain rfl:=cP dz;exact⟨sP,rfl⟩
   ·cases dz
  let K:VK (Gh fr):=λv bl ch=>ch=[bj k s F]/\((s.c.q=[]/\v=.agg (oZ s (.raw cC))/\bl=dG k s)\/(s.c.q≠[]/\∃c u,v=.agg (oZ s (.sl 4 0 s.c.q.length c))/\bl=dG k s++[Dk s.c.q u]))
  have k0:s.c.q=[]->K (.agg (oZ s (.raw cC))) (dG k s) [bj k s F]:=λe=>⟨rfl,.inl ⟨e,rfl,rfl⟩⟩;have k1:s.c.q≠[]->∀c u,K (.agg (oZ s (.sl 4 0 s.c.q.length c))) (dG k s++[Dk s.c.q u]) [bj k s F]:=λe c u=>⟨rfl,.inr ⟨e,c,u,rfl,rfl⟩⟩;have cT:bz (gM du gS (L8 fr (aO aU)) (Cp du) EM) 60 37 [.ptr 2 0] (dG k s) [bj k s F] (bG 4 K):=by
   rw[at1];refine⟨rfl,λe x c=>zl (k0 e) 5 0 dC,λa1 e c t c1 u1 _ _=>?_,λa1 b1 e c t c1 u1 h1 h2=>?_,λa1 b1 d1 e c t c1 u1 h1 h2=>?_⟩
   ·have:=k1 (by rw[e];simp) c1 u1;rw[e]at this;exact zl this 5 0 dC
   ·have hk:=k1 (by rw[e];simp);rw[e]at hk;exact⟨⟨h1,h2⟩,λc2 u2 _ _=>zl (hk c2 u2) 5 0 dC,λc2 u2 _ _=>zl (hk c2 u2) 5 0 dC⟩
   ·have hk:=k1 (by rw[e];simp);rw[e]at hk;exact⟨⟨h1,h2⟩,λc2 u2 g1 g2=>⟨⟨g1,g2⟩,λc3 u3 _ _=>zl (hk c3 u3) 5 0 dC,λc3 u3 _ _=>zl (hk c3 u3) 5 0 dC⟩,λc2 u2 g1 g2=>⟨⟨g1,g2⟩,λc3 u3 _ _=>zl (hk c3 u3) 5 0 dC,λc3 u3 _ _=>zl (hk c3 u3) 5 0 dC⟩⟩
  refine(eO (Da aU ht).T (Da aU ht).Q 60 (C:=gM du gS (L8 fr (aO aU)) (Cp du) EM) (ae:=dc a b) (bl:=dG k s) (ch:=[bj k s F]) (R:=R) (ms:=ms) (w0:=w0) (w:=w) hg rfl (by
   have e:ax [bj k s F] R=F.B++R:=rfl;rw[e];exact S) cT).mono ?_
  rintro v w' ⟨x,aq,b9,ce,rfl,h1,S',hK⟩;obtain⟨v2,cj,ci,hv,cK,S2,rfl,iQ⟩:=ig (n0:=4) h1 sP S' hK;have ht4:(dc a b++aq).take 4=dc a b:=rfl;rw[ht4]at hv cK S2;have eR:ax [bj k s F] R=F.B++R:=rfl;rw[eR]at S2;rw[hv];have ji:∀(i ty:Nat)(us:List aj),lits [i] [i] [jf ty 1 s.c.q.length (ov s.c.q) us]=[⟨i,ah,.cells ((bg s.c.q.length).flatMap (ov s.c.q)++us).toArray ty (0,0)⟩]:=λi ty us=>by
   simp only[lits,aI,FT];rfl
  rcases iQ with⟨e,rfl,rfl⟩|⟨e,c,u,rfl,rfl⟩
  ·obtain rfl:cj=[]:=kX (by simpa[dG]using cK);refine⟨_,s,F,[],_,[0],rfl,?_,rfl,hM ag 0 k.tg (ao [] (cx k).c),?_⟩
   ·simp only[oZ,oe,yI,den,ao,cl,cy,fe,fu,e];rfl
   ·simp only[cy]at S2;have S3:=S2.dup (b:=aI [0] 0 (cx k)) (by
     refine kB _ ?_;rw[jL (ids':=dc a b) (CU k)];exact xk) rfl
    rw[ji];have e2:(⟨0,ah,.cells ((bg s.c.q.length).flatMap (ov s.c.q)++ao [] (cx k).c).toArray k.tg (0,0)⟩:av)=aI [0] 0 (cx k):=by
     rw[e,jL (ids':=[]) (CU k)];rfl
    rw[e2];exact S3.perm kY.symm
  ·match cj,cK with
   |[x],_=>
    refine⟨_,s,F,[],_,[x],rfl,?_,rfl,hM ag c 3 u,?_⟩
    ·have hn:aC s.c.q.length 0=ah:=by
      cases hb:aC s.c.q.length 0 with
      |false=>rfl
      |true=>exact absurd (kX (cw hb)) e
     have hg4:(dc a b++[x]).getD 4 0=x:=rfl;have OW:([x]:List Nat).getD 0 0=x:=rfl;simp only[oZ,oe,yI,den,ao,cl,cy,fe,fu,hn,cond_false,hg4,OW];rfl
    ·have e2:lits (dc a b++[x]) (dc a b++[x]) (dG k s++[Dk s.c.q u])=lits (dc a b) (dc a b) (dG k s)++[⟨x,af,.cells ((bg s.c.q.length).flatMap (ov s.c.q)++u).toArray 3 (0,0)⟩]:=by
      rw[fw _ _ _ _ rfl,fy (ae:=dc a b) (aq:=[x]) (dc a b) (dG k s) rfl,Dq (ids':=[x]) [x] _ (auL _ _)];simp only[lits,aI,Dk,kg,ao,cl,cy,ae3 s.c.q [x]]
     rw[e2]at S2;have S3:=(S2.perm (bs':=⟨x,af,.cells ((bg s.c.q.length).flatMap (ov s.c.q)++u).toArray 3 (0,0)⟩::(lits (dc a b) (dc a b) (dG k s)++(F.B++R))) (dW λf=>by simp only[ee,j9,lQ];omega)).mP;rw[ji];exact S3.perm (dW λf=>by simp only[ee,j9,lQ];omega)
   |[],h=>simp[dG]at h
   |_::_::_,h=>simp[dG]at h
 ·exact hM.elim
def auN(d:Fd)(h:(∃i,i<4/\d=fX i)\/∀v m,(d.set v m).x=m.x):∀v,d.low<=v->v<=d.high->∀m:ca,kx m.x->kx (d.set v m).x:=by
 intro v h1 h2 m hm;rcases h with⟨i,hi,rfl⟩|h
 ·have hv:Sd.Bd v:=⟨by have:(-32768:Int)<=v:=h1;omega,by have:v<=(32767:Int):=h2;omega⟩;have:i=0\/i=1\/i=2\/i=3:=oM;rcases this with rfl|rfl|rfl|rfl
  ·exact⟨hv,hm.2.1,hm.2.2.1,hm.2.2.2⟩
  ·exact⟨hm.1,hv,hm.2.2.1,hm.2.2.2⟩
  ·exact⟨hm.1,hm.2.1,hv,hm.2.2.2⟩
  ·exact⟨hm.1,hm.2.1,hm.2.2.1,hv⟩
 ·rw[h];exact hm
def auO{n:Nat}{f:Nat->Int}{m:ca}(h:aU n f=aa m):kx m.x:=by
 unfold aU at h;split at h
 ·cases h
 split at h
 ·rename_i l hl;refine Oo (λm=>kx m.x) l 1 _ m ?_ Sd.FQ h;intro d hd;refine auN d ?_;have fx:∀i,i<4->(∃j,j<4/\fX i=fX j)\/∀v m,((fX i).set v m).x=m.x:=λi hi=>.inl ⟨i,hi,rfl⟩;have b0:=fx 0 dC;have b1:=fx 1 dC;have b2:=fx 2 dC;have b3:=fx 3 dC
  have fo:∀d:Fd,(∀v m,(d.set v m).x=m.x)->(∃i,i<4/\d=fX i)\/∀v m,(d.set v m).x=m.x:=λd h=>.inr h;have a1:=fo CM λ_ _=>rfl;have a2:=fo kp λ_ _=>rfl;have a3:=fo Fg λ_ _=>rfl;have a4:=fo sj λ_ _=>rfl;have a5:=fo Fh λ_ _=>rfl;have a6:=fo wz λ_ _=>rfl;have a7:=fo Fi λ_ _=>rfl
  unfold vn at hl
  repeat' split at hl
  all_goals first|(cases hl;done)|(obtain rfl:=cP hl;simp at hd;rcases hd with rfl|rfl|rfl|rfl|rfl|rfl|rfl<;>assumption)|(obtain rfl:=cP hl;simp at hd;rcases hd with rfl|rfl|rfl|rfl|rfl|rfl<;>assumption)|(obtain rfl:=cP hl;simp at hd;rcases hd with rfl|rfl|rfl|rfl|rfl<;>assumption)|(obtain rfl:=cP hl;simp at hd;rcases hd with rfl|rfl|rfl|rfl<;>assumption)|(obtain rfl:=cP hl;simp at hd;rcases hd with rfl|rfl|rfl<;>assumption)|(obtain rfl:=cP hl;simp at hd;rcases hd with rfl|rfl<;>assumption)|(obtain rfl:=cP hl;simp at hd;subst hd;assumption)|(obtain rfl:=cP hl;simp at hd)
 ·cases h
section
variable{k:LK}{s:Sd.ai}{b:Prop}
def JR{C:aM}{s':Sd.ai}{kind l:Int}(e:Sd.gb C b s s' kind l):s'.c.p=s.c.p:=by
 rcases e.AL with h|⟨how,h,_⟩
 ·exact h.p
 ·exact h.p
def ft.of{C:aM}{s':Sd.ai}{kind l:Int}(h:ft k s)(e:Sd.gb C b s s' kind l)(x:Sd.Ext s'.c):ft k (fE s'):=⟨e.1,x,h.key,λi hi=>by show s'.c.p.k i=_;rw[JR e];exact h.ke i hi,rfl,rfl⟩
def ft.tick(h:ft k s):ft k (fE (s.tick (aO aU))):=h.of (b:=False) (WT h.i).1 (Sd.auC h.i h.x)
def ft.lT(h:ft k s)(x:Bool):ft k (fE (s.lT (aO aU) x)):=h.of (b:=False) (WO h.i) (Sd.auw h.x)
def ft.iK(h:ft k s){x:fK}(hx:kx x.x):ft k (fE (s.iK (aO aU) x)):=h.of (b:=False) (WN h.i) (Sd.auu hx h.i.p h.x)
def ft.item(h:ft k s)(l code:Int)(n:Nat)(f:az):ft k (fE (zk (aO aU) s l code n f)):=by
 unfold zk;split
 ·rename_i hl;exact h.of (b:=False) (Un Dj h.i hl (λe=>e.elim)) (Sd.aut (λ_ _ _ hm=>auO hm) hl h.i.p h.x)
 ·exact⟨h.i,h.x,h.key,h.ke,rfl,rfl⟩
end
def dP(u:an)(a:Option aF):az:=λj=>match a with
 |some x=>(match u.cell? (x.add j)with|some (.int _ v)=>if 0<=v/\v<=255 then v else 0|_=>0)
 |none=>0
def ae4(u:an)(a:Option aF):By (dP u a):=by
 intro j;unfold dP;split
 ·split
  ·split
   ·assumption
   ·exact⟨dC,dC⟩
  ·exact⟨dC,dC⟩
 ·exact⟨dC,dC⟩
def auP{u:an}{a:Option aF}{n c:Nat}{f:Nat->Int}(h:jx u a n c f)(hb:∀j,j<n->0<=f j/\f j<=255):jx u a n c (dP u a):=by
 refine⟨h.1,h.2.1,λx e j hj=>?_⟩;have hc:=h.2.2 x e j hj;have:dP u a j=f j:=by
  unfold dP;rw[e];simp only[hc];rw[if_pos (hb j hj)]
 rw[this];exact hc
def ae5:az:=λ_=>0
def hU(n d:Nat)(f:az):VB:=⟨af,⟨5,(0,0)⟩,[.cu .u8 n f,.cu .u8 d ae5]⟩
def JS(ae:List Nat)(n d:Nat)(f:az):(ao ae (hU n d f).c).toArray=bM n f (n+d):=by
 have e:(bg d).map (λj=>fI .u8 (ae5 j))=oE d (.int .u8 0):=by
  show(bg d).map (λ_=>fI .u8 0)=_;rw[List.map_const'];simp
 simp only[hU,ao,cl,bM,cQ,cy,e];rw[show n+d-n=d by omega]
def auQ{u w:an}{B:List av}{ms:List Nat}{w0:an}(S:St ms w0 B w)(h:∀y∈cA u,y∈B){x:aF}{v:aj}(hc:u.cell? x=aa v):w.cell? x=aa v:=by
 unfold zK at hc⊢;split at hc
 ·rename_i cs ty fr' hb;have:=S.at' (h _ (MO hb));simp only at this;rw[this];exact hc
 ·cases hc
def W5{u w:an}{B:List av}{ms:List Nat}{w0:an}(S:St ms w0 B w)(h:∀y∈cA u,y∈B){a:Option aF}{n c:Nat}{f:Nat->Int}(hk:jx u a n c f):jx w a n c f:=
 ⟨hk.1,hk.2.1,λx e j hj=>auQ S h (hk.2.2 x e j hj)⟩
def OX{w:an}{m:Nat}{g:Nat->Int}{x:Option aF}{t tx ty:aP}{xv:aj}(hs:Src du 1 tx xv m (cQ m g) w)(ht:du.underlying t=aa (.slice 5))(hm:0<m)(hb:m<=140737488355328)(x:aF):
 ∃c' w',(nJ #[t,tx] ty #[.slice (aa x) 0 0,xv]).run du w=.ok (.slice (aa ⟨w.heap.size,0,ag⟩) m c') w'/\Ch [] w w'/\m<=c'/\w'.heap[w.heap.size]?=aa (.cells (bM m g c') 5 (0,0)):=by
 have hi:(du.info? 5).map (λi=>(i.zero.map (·.cells),i.size,i.bytes))=aa (aa #[.int .u8 0],1,1):=kR;obtain⟨i,cE,hi⟩:=jr.1 hi;simp only[bI]at hi;obtain⟨hz,dr,kC⟩:=hi;obtain⟨z0,nO,qF⟩:=jr.1 hz;have iJ:Src du i.size tx xv m (cQ m g) w:=by rw[dr];exact hs
 have hold:(Builtin.firstCells i.size 0 (.slice (aa x) 0 0)).run du w.drew=.ok (([]:List aj).toArray) w.drew:=
  run_firstCells_some (P:=du) w.drew i.size 0 x 0 0 [] (by rw[Nat.zero_mul];rfl) (λj v hj=>nomatch hj)
 have b_:=run_append_grow_src (P:=du) w t tx ty 5 i z0 ht cE nO (aa x) 0 0 [] hold xv m (cQ m g) iJ oM oM (by rw[kC];exact growslice_fits oM oM);have fJ:=grownCap_ge w (0+m) 0 5;rw[d_]at b_ fJ;refine⟨_,_,b_,((Ch.refl [] w).drew).trans (Ch.alloc [] w.drew _) (λx hx=>.inl hx),fJ,?_⟩;have:=oB w.drew (.cells (([]++cQ m g).toArray++rD z0.cells (grownCap w m 0 5-m)) 5);refine Eq.trans this ?_;congr 2;apply fP;rw[qF,GB,QP];rfl
def W6{w:an}{g:Nat->Int}{t tx ty:aP}{xv:aj}(hs:Src du 1 tx xv 0 (cQ 0 g) w)(ht:du.underlying t=aa (.slice 5))(x:aF):
 (nJ #[t,tx] ty #[.slice (aa x) 0 0,xv]).run du w=.ok (.slice (aa x) 0 0) w:=by
 have hi:(du.info? 5).map (λi=>(i.zero.map (·.cells),i.size,i.bytes))=aa (aa #[.int .u8 0],1,1):=kR;obtain⟨i,cE,hi⟩:=jr.1 hi;simp only[bI]at hi;obtain⟨hz,dr,kC⟩:=hi;exact run_append_nothing (P:=du) w t tx ty 5 i ht cE (aa x) 0 0 (cW _) xv (by rw[dr];exact hs)
end
end Go.Proofs.YtddcipamdggcnaaGreatDoor
namespace Sd
structure Fd where
 kind:Int
 size:Nat
 code:Int
 n:Nat
 f:az
def Dt:az:=λ_=>0
def j4(f:az):Nat->Nat->Nat
 |0,j=>j
 |n+1,j=>if f j=165 then j else j4 f n (j+1)
def JT(f:az):∀n j,j<=j4 f n j/\j4 f n j<=j+n
 |0,j=>⟨cW _,cW _⟩
 |n+1,j=>by
  unfold j4;split
  ·exact⟨cW _,oM⟩
  ·have:=JT f n (j+1);omega
def zm:Fd:=⟨0,0,0,0,Dt⟩
def A7(code:Int):Fd:=⟨3,1,code,0,Dt⟩
def dZ(crc:az->Nat->Int)(n:Nat)(f:az):Fd:=
 if n=0 then zm
 else if f 0≠165 then⟨1,j4 f n 0,0,0,Dt⟩
 else if n=1 then zm
 else if f 1≠1 then A7 10
 else if n=2 then zm
 else if 32<f 2 then A7 11
 else if n<5+(f 2).toNat then zm
 else if crc (λj=>f (1+j)) (2+(f 2).toNat)≠f (3+(f 2).toNat)*256+f (4+(f 2).toNat)then A7 12
 else⟨2,5+(f 2).toNat,0,(f 2).toNat,λj=>f (3+j)⟩
structure It where
 code:Int
 n:Nat
 f:az
def ug(d:Fd):List It:=if d.kind=2 then[⟨0,d.n,d.f⟩]else if d.kind=3 then[⟨d.code,0,Dt⟩]else[]
def iW(crc:az->Nat->Int):Nat->Nat->az->List It×Nat×az
 |0,n,f=>([],n,f)
 |k+1,n,f=>
  let d:=dZ crc n f
  if d.kind=0 then([],n,f)
  else
   let r:=iW crc k (n-d.size) (λj=>f (d.size+j))
   (ug d++r.1,r.2)
def o9(n:Nat)(f g:az):az:=λj=>if j<n then f j else g (j-n)
abbrev Rest:=Nat×az
def sU(crc:az->Nat->Int)(r:Rest)(n:Nat)(f:az):List It×Rest:=iW crc (r.1+n) (r.1+n) (o9 r.1 r.2 f)
section
variable{crc:az->Nat->Int}
def OY(n:Nat)(f:az)(h:(dZ crc n f).kind≠0)(h0:∀j,0<=f j):1<=(dZ crc n f).size/\(dZ crc n f).size<=n:=by
 revert h;unfold dZ;split
 ·intro h;exact absurd rfl h
 ·rename_i hn;split
  ·rename_i h1;intro _;have h2:=JT f n 0;refine⟨?_,by simpa using h2.2⟩;show 1<=j4 f n 0;obtain⟨m,rfl⟩:=Nat.exists_eq_succ_of_ne_zero hn;unfold j4;rw[if_neg h1];exact(JT f m 1).1
  ·split
   ·intro h;exact absurd rfl h
   ·split
    ·intro _;exact⟨cW _,by show 1<=n;omega⟩
    ·split
     ·intro h;exact absurd rfl h
     ·split
      ·intro _;exact⟨cW _,by show 1<=n;omega⟩
      ·split
       ·intro h;exact absurd rfl h
       ·split
        ·intro _;exact⟨cW _,by show 1<=n;omega⟩
        ·intro _;exact⟨by show 1<=5+_;omega,by show 5+_<=n;omega⟩
def auR(n:Nat)(f:az):(dZ crc n f).n<=32:=by
 unfold dZ
 repeat' split
 all_goals first|exact oG _|(show(f 2).toNat<=32;omega)
def ae6:∀(k n:Nat)(f:az),n<=k->(∀j,0<=f j)->(dZ crc (iW crc k n f).2.1 (iW crc k n f).2.2).kind=0
 |0,n,f,h,_=>by
  obtain rfl:n=0:=oM;rfl
 |k+1,n,f,h,h0=>by
  unfold iW;dsimp only;split
  ·rename_i hk;exact hk
  ·rename_i hk;have:=OY n f hk h0;exact ae6 k _ _ oM λj=>h0 _
def ae7{k n:Nat}{f:az}(h:(dZ crc n f).kind=0):iW crc k n f=([],n,f):=by
 cases k with
 |zero=>rfl
 |succ k=>unfold iW;dsimp only;rw[if_pos h]
end
end Sd
namespace Go.Proofs.YtddcipamdggcnaaGreatDoor
section
def vA(n:Nat)(f:Nat->Int):Int:=bif aC (Sd.j4 f n 0) n then-1 else((Sd.j4 f n 0:Nat):Int)
def ae8{f:Nat->Int}:∀(n j:Nat),(∀i,i<n->0<=f (j+i)/\f (j+i)<=255)->Zg ((bg n).map λi=>Lg (f (j+i)).toNat) 165=if Sd.j4 f n j=j+n then-1 else((Sd.j4 f n j:Nat):Int)-j
 |0,j,_=>by simp[Zg,Sd.j4]
 |n+1,j,h=>by
  rw[ta,gx,lN];have e:((λi=>Lg (f (j+i)).toNat)∘Nat.succ)=λi=>Lg (f ((j+1)+i)).toNat:=by
   funext i;simp only[Function.comp_apply];rw[show j+Nat.succ i=j+1+i by omega]
  rw[e];unfold Zg Sd.j4;have h0:=h 0 oM;rw[lM]at h0;have hq:(Lg (f (j+0)).toNat==165)=decide (f j=165):=by
   rw[lM];by_cases he:f j=165
   ·rw[he];rfl
   ·rw[decide_eq_false he];refine beq_eq_false_iff_ne.2 λhx=>he ?_;have h1:=congrArg UInt8.toNat hx;rw[UInt8.toNat_ofNat']at h1;have h2:(165:UInt8).toNat=165:=rfl;rw[h2]at h1;omega
  rw[hq];by_cases he:f j=165
  ·rw[if_pos (by simp[he]),if_pos he,if_neg oM];omega
  ·rw[if_neg (by simp[he]),if_neg he];have hi:=ae8 n (j+1) λi hi=>by have:=h (i+1) oM;rwa [show j+(i+1)=j+1+i by omega]at this
   have hle:=Sd.JT f n (j+1);by_cases hx:Sd.j4 f n (j+1)=j+1+n
   ·rw[if_pos hx]at hi;have uU:Sd.j4 f n (j+1)=j+(n+1):=oM;rw[hi,if_pos uU];rfl
   ·rw[if_neg hx]at hi;have uU:¬Sd.j4 f n (j+1)=j+(n+1):=oM;have fJ:((j+1:Nat):Int)<=((Sd.j4 f n (j+1):Nat):Int):=by have:=hle.1;omega
    have hc:¬(((Sd.j4 f n (j+1):Nat):Int)-((j+1:Nat):Int)==-1)=af:=by rw[beq_iff_eq];omega
    rw[hi,if_neg hc,if_neg uU];omega
def auS{n:Nat}{f:Nat->Int}(h:∀i,i<n->0<=f i/\f i<=255):Zg (Lib.bytesOf ((bg n).map f)) 165=vA n f:=by
 have:=ae8 (f:=f) n 0 (λi hi=>by rw[d_];exact h i hi);have e0:(λi=>Lg (f (0+i)).toNat)=λi=>Lg (f i).toNat:=by funext i;rw[d_]
 rw[e0,d_]at this;unfold Lib.bytesOf;rw[lN];refine Eq.trans this ?_;rw[show((0:Nat):Int)=0 from rfl,Int.sub_zero];unfold vA;by_cases hx:Sd.j4 f n 0=n
 ·rw[if_pos hx,hx,uv];rfl
 ·rw[if_neg hx];cases hb:aC (Sd.j4 f n 0) n with
  |true=>exact absurd (cw hb) hx
  |false=>rfl
def ix_(b o n c:Nat)(f:Nat->Int)(w:an)(hB:cJ w b o n f)(hf:∀i,i<n->0<=f i/\f i<=255):
 ba du 159 #[.slice (aa ⟨b,o,ag⟩) n c,.int .u8 165] w λv w1=>v=.int .i64 (vA n f)/\Ch [] w w1:=by
 have S0:=St.nil [] w;refine jT Tryz.func159 rfl ?_;refine aW (bu ?_);refine gC ?_;refine bh (aZ (aW (bu ?_)));refine dI ?_;refine dI ?_;refine aG (.int .i64 (vA n f)) ?_ kR ?_
 ·refine gC ?_;refine bh (aZ (jC ?_));refine jD rfl (iI [.tmp 4] [.int .i64 (vA n f)] (.int .i64 (vA n f)) ⟨kN,trivial⟩) ?_;exact⟨rfl,S0.ch⟩
 ·have h:=Lib.run_indexByteSlice (P:=du) (w:=w) b o n c ((bg n).map f) sP (λi hi=>by rw[hB i hi];simp[gh,hi]) 165;rw[show(165:Int).toNat.toUInt8=165 from rfl,auS hf]at h;have h2:=run_callFunc_extern (P:=du) Tryz.func200 kR kR kR (e:=Extern.BytealgIndexByte.indexByte) kR #[.slice (aa ⟨b,o,ag⟩) n c,.int .u8 165] w;rw[h]at h2;exact Eq.trans (b:=(callFunc 200 #[.slice (aa ⟨b,o,ag⟩) n c,.int .u8 165]).run du w) kR h2
def ky(N:Nat)(f:Nat->Int)(us:List aj):VB:=⟨ah,⟨5,(0,0)⟩,[.rest [],.arr .u8 N f,.rest us]⟩
def W7:QF:=⟨157,λak bl=>match ak with
 |[.sl i o n c]=>(match bl[i]?with
  |some ⟨_,_,[.rest [],.arr .u8 N f,.rest us]⟩=>aa ((o+n<=N/\n<=1000000),.int .u16 (cn (λj=>f (o+j)) n))
  |_=>ag)
 |_=>ag⟩
def W8{ae:List Nat}{N:Nat}{f:Nat->Int}{us:List aj}{w:an}{b:Nat}{ty:BT}(h:w.heap[b]?=aa (.cells (ao ae [.rest [],.arr .u8 N f,.rest us]).toArray ty.t ty.fz)){o n:Nat}(hn:o+n<=N):cJ w b o n (λj=>f (o+j)):=by
 intro j hj;rw[cell_of h];have e:ao ae [.rest [],.arr .u8 N f,.rest us]=((bg N).map λj=>fI .u8 (f j))++us:=by simp only[ao,cl,fu,cy]
 rw[e,j7,gB (by simp;omega),kA,pr oM];rfl
def auT(gl:Nat->Option Nat):W7.Ok du gl:=by
 intro ak bl p_ v_ h hp ae w _ hm;unfold W7 at h;dsimp only at h;split at h
 ·rename_i i o n c;split at h
  ·rename_i wr ty N f us hb;simp only[a_,bI]at h;obtain⟨rfl,rfl⟩:=h;exact acI (ae.getD i 0) o n c (λj=>f (o+j)) hp.2 w (W8 (hm.2 i _ hb) hp.1)
  ·cases h
 ·cases h
def W9:QF:=⟨159,λak bl=>match ak with
 |[.sl i o n c,.int .u8 165]=>(match bl[i]?with
  |some ⟨_,_,[.rest [],.arr .u8 N f,.rest us]⟩=>aa ((o+n<=N/\∀j,j<N->0<=f j/\f j<=255),.int .i64 (vA n (λj=>f (o+j))))
  |_=>ag)
 |_=>ag⟩
def auU(gl:Nat->Option Nat):W9.Ok du gl:=by
 intro ak bl p_ v_ h hp ae w _ hm;unfold W9 at h;dsimp only at h;split at h
 ·rename_i i o n c;split at h
  ·rename_i wr ty N f us hb;simp only[a_,bI]at h;obtain⟨rfl,rfl⟩:=h;exact ix_ (ae.getD i 0) o n c (λj=>f (o+j)) w (W8 (hm.2 i _ hb) hp.1) (λj hj=>hp.2 (o+j) oM)
  ·cases h
 ·cases h
variable{fr:aQ->Nat×az}
def FU(k:LK)(x:Option aF)(n c:Nat)(f:az):LK:={k with px:=x,pn:=n,pc:=c,pf:=f}
def Du(k:LK):Prop:=k.px=ag/\k.pn=0/\k.pc=0
end
section
variable{fr:aQ->Nat×az}
structure W_ where
 kind:Int
 link:Int
 code:Int
 x:Option aF
 n:Nat
 c:Nat
 s:fK
 bad:Bool
def ae9(C:aM)(u:an)(s:Sd.ai)(o:W_):Sd.ai:=
 if o.kind.tmod 4=1 then s.iK C o.s else if o.kind.tmod 4=2 then s.lT C o.bad else if o.kind.tmod 4=3 then s.tick C else zk C s o.link o.code (cY 40 o.n) (dP u o.x)
def OZ(k:LK)(s:Sd.ai):Prop:=aa (cx k)=aa (cx k)/\aa (g_ k)=aa (g_ k)/\nr k 3 s=nr k 3 (bV s)/\s.c.p.da=s.c.p.da/\s.c.p.jk=s.c.p.jk/\s.c.p.queue=k.most
section
variable(C:aM)(k:LK)(s:Sd.ai)(F:bx fr (bd k s))(u:an)(fB:List av)(o:W_)(X:VK (LG fr))
end
def ft.step{k:LK}{s:Sd.ai}(h:ft k s)(u:an)(o:W_)(hx:kx o.s.x):ft k (fE (ae9 (aO aU) u s o)):=by
 unfold ae9;split
 ·exact h.iK hx
 split
 ·exact h.lT _
 split
 ·exact h.tick
 ·exact h.item _ _ _ _
end
section
section
variable{G:Type}[Bl G]
def pick_run{C:Ctx Empty}{f n:Nat}{ae:List Nat}{bl:List VB}{ch:List G}{R:List av}{ms:List Nat}{w0 w:an}(hT:∀f c,C.T f=aa c->Sound C.P C.gl f c)(hQ:nZ C)(hg:C.gl=cU)(hl:ae.length=bl.length)(S:St ms w0 (lits ae ae bl++ax ch R) w)
 (is:List Nat) (hn:is.Nodup) (bs:List VB) (hb:is.map (bl[·]?)=bs.map aa) (hw:bY 0 bs=af) {ak args':List V} (cN:aJ ae ak=aJ (is.map λi=>ae.getD i 0) args') {v0:V} (Gq:dg 0 v0=af)
 (cT:bz C n f args' bs [] (λv b _=>v=v0/\b.take bs.length=bs)):ba C.P f (aJ ae ak).toArray w λv w'=>v=den [] v0/\St ms w0 (lits ae ae bl++ax ch R) w':=by
 have dl:is.length=bs.length:=by have:=congrArg List.length hb;simpa using this
 have uz:∀(k i:Nat),is[k]?=aa i->∃b,bs[k]?=aa b/\bl[i]?=aa b:=by
  intro k i hk;have:=congrArg (λl=>l[k]?) hb;simp only[kA,hk,pk]at this;cases hbk:bs[k]?with
  |none=>rw[hbk]at this;simp at this
  |some b=>rw[hbk]at this;simp only[pk,a_]at this;exact⟨b,rfl,this⟩
 have dy:∀i∈is,i<bl.length:=by
  intro i hi;obtain⟨k,hk⟩:=DP hi;obtain⟨b,_,h2⟩:=uz k i hk;exact mj h2
 obtain⟨r,hr,hp⟩:=Fo (bl:=bl) (ae:=ae) hl hn dy;have kJ:=hp bl rfl;have Eu:∀(Yp:List Nat),(is.map λj=>aI ae (ae.getD j 0) (bl.getD j fp))=lits Yp (is.map λi=>ae.getD i 0) bs:=by
  intro Yp;clear hr hp kJ cN cT dy;induction is generalizing bs with
  |nil=>simp[lits]
  |cons i is ih=>
   cases bs with
   |nil=>simp at dl
   |cons b bs=>
    simp only[gx,List.cons.injEq]at hb;simp only[bY,bJ]at hw;simp only[gx,lits,lF hb.1];rw[jL (ids':=Yp) hw.1,ih (uo.1 hn).2 bs hb.2 hw.2 (by simpa using dl) (λk i hk=>uz (k+1) i (by simpa using hk))]
 rw[Eu (is.map λi=>ae.getD i 0)]at kJ;have S1:St ms w0 (lits (is.map λi=>ae.getD i 0) (is.map λi=>ae.getD i 0) bs++ax ([]:List Empty) ((r.map λj=>aI ae (ae.getD j 0) (bl.getD j fp))++ax ch R)) w:=by
  refine S.perm ((kJ.append_right _).trans ?_);simp only[ax,bZ];exact zM _
 rw[cN];refine(eO hT hQ n (λg i h=>by rw[hg]at h;cases h) (by simpa using dl) S1 cT).mono ?_;rintro v w' ⟨x,aq,b9,ce,rfl,qg,S2,rfl,hbs⟩;refine⟨by have:=gX (ae:=[]) (aq:=(is.map λi=>ae.getD i 0)++aq) x Gq;simpa using this,?_⟩;have qh:b9=bs++b9.drop bs.length:=by have:=jR bs.length b9;rw[hbs]at this;exact this.symm
 rw[qh,fw _ _ _ _ (by simpa using dl),Dq (ids':=is.map λi=>ae.getD i 0) (is.map λi=>ae.getD i 0) bs hw]at S2;have cz:ax ce ((r.map λj=>aI ae (ae.getD j 0) (bl.getD j fp))++ax ch R)=(r.map λj=>aI ae (ae.getD j 0) (bl.getD j fp))++ax ch R:=by
  match ce with
  |[]=>rfl
  |e::_=>exact nomatch e
 rw[cz]at S2;have S3:St ms w0 ((lits (is.map λi=>ae.getD i 0) (is.map λi=>ae.getD i 0) bs)++((r.map λj=>aI ae (ae.getD j 0) (bl.getD j fp))++ax ch R)) w':=S2.sub (Zd (List.sublist_append_left _ _) _);refine S3.perm ?_;refine xm ?_ (kJ.symm.append_right _);rw[bZ]
end
def ntG(q:Nat->Int)(k:Nat):List aj:=[.int .i64 (q k)]
def ntsL(n:Nat)(q:Nat->Int)(a b:Bool)(ty sV:BT)(u u':List aj):List VB:=[⟨a,ty,[.gm 1 n (ntG q),.rest u]⟩,⟨b,sV,[.gm 1 n (ntG q),.rest u']⟩]
def ntsV(n c c':Nat)(x x':Option aF)(j:{j:Nat //j<=n}):List V:=[.dB 0 0 n c x,.dB 1 0 n c' x',.int .i64 j.1]
def lpNts(n c c':Nat)(x x':Option aF)(q:Nat->Int)(a b:Bool)(ty sV:BT)(u u':List aj):Lp Empty:=we (X:={j:Nat //j<=n}) (λj=>n-j.1) 26 2 [0,1,5] (ntsV n c c' x x') (λ_=>ntsL n q a b ty sV u u') (λ_=>[]) (λ_=>rfl) (λ_=>rfl) (λ_=>rfl)
section
variable(n c c':Nat)(y y':Option aF)(q:Nat->Int)(a b:Bool)(ty sV:BT)(u u':List aj)(K:VK Empty)
def ntsX:Prop:=
 let B:=ntsL n q a b ty sV u u'
 cond ((n:Int)!=n) (K (.bool ah) B []) ((af=af/\uX (ntsV n c c' y y') (λ_=>ntsL n q a b ty sV u u') (λ_=>([]:List Empty)) [.dB 0 0 n c y,.dB 1 0 n c' y',.int .i64 0] B [])/\∀(x:{j:Nat //j<=n})(g:Nat->aj),
  cond (decide ((x.1:Int)<n)) ((0<=(x.1:Int)/\(x.1:Int)<n)/\((x.1:Int).toNat<n/\∀j,(ntG q j).length=1)/\(0<=(x.1:Int)/\(x.1:Int)<n)/\((x.1:Int).toNat<n/\∀j,(ntG q j).length=1)/\
   cond (q (x.1:Int).toNat !=q (x.1:Int).toNat) (K (.bool ah) B []) (af=af/\uY (λj=>n-j.1) (ntsV n c c' y y') (λ_=>ntsL n q a b ty sV u u') (λ_=>([]:List Empty)) x [.dB 0 0 n c y,.dB 1 0 n c' y',.int .i64 (i64.wrap ((x.1:Int)+1))] B [])) (K (.bool af) B []))
def nts_vc:bz (pT du cU ([]:List (bT Empty)) (ja 0 (lpNts n c c' y y' q a b ty sV u u'))) 60 38 [.dB 0 0 n c y,.dB 1 0 n c' y'] (ntsL n q a b ty sV u u') [] K=ntsX n c c' y y' q a b ty sV u u' K:=kR
end
def nts_ok{n c c':Nat}{y y':Option aF}{q:Nat->Int}{a b:Bool}{ty sV:BT}{u u':List aj}{K:VK Empty}(hn:n<=1000000)(hK:K (.bool af) (ntsL n q a b ty sV u u') []):ntsX n c c' y y' q a b ty sV u u' K:=by
 unfold ntsX;refine aN (λe=>by simp at e) (λ_=>⟨⟨rfl,⟨0,oG _⟩,rfl,rfl,rfl⟩,?_⟩);rintro⟨j,hj⟩ g;dsimp only;refine aN (λe=>?_) (λ_=>hK);have dy:(j:Int)<n:=by simpa using e
 have hl:∀k,(ntG q k).length=1:=λ_=>rfl;refine⟨⟨oM,dy⟩,⟨oM,hl⟩,⟨oM,dy⟩,⟨oM,hl⟩,?_⟩;refine aN (λe=>by simp at e) (λ_=>⟨rfl,⟨j+1,oM⟩,by show n-(j+1)<n-j;omega,?_,rfl,rfl⟩);unfold ntsV;rw[lg oM];rfl
def intsC{G:Type}:dm G:=λak bl ch K=>match ak with
 |[.dB i 0 n _ _,.dB j 0 m _ _]=>(match bl[i]?,bl[j]?with
  |some ⟨_,_,[.gm 1 n' g,.rest _]⟩,aa ⟨_,_,[.gm 1 m' g',.rest _]⟩=>cond (!(aC i j)) ((n'=n/\m'=n/\m=n/\n<=1000000/\g'=g/\∃q,g=ntG q)/\K (.bool af) bl ch) False
  |_,_=>False)
 |_=>False
def ints_sound{G:Type}[Bl G]{gl:Nat->Option Nat}:Sound (G:=G) du gl 38 intsC:=by
 intro ak ae bl ch R ms w0 w K hg hl S hc;unfold intsC at hc;split at hc
 ·rename_i i n c x j m c' x';split at hc
  ·rename_i a ty n' g u b sV m' g' u' hi hj;cases hq:!(aC i j)with
   |false=>rw[hq]at hc;exact hc.elim
   |true=>
    rw[hq]at hc;obtain⟨⟨rfl,rfl,rfl,hn,rfl,q,rfl⟩,hK⟩:=hc;have mW:i≠j:=λe=>by rw[e,uv]at hq;cases hq
    have cT:bz (pT du cU ([]:List (bT Empty)) (ja 0 (lpNts m c c' x x' q a b ty sV u u'))) 60 38 [.dB 0 0 m c x,.dB 1 0 m c' x'] (ntsL m q a b ty sV u u') [] (λv bl _=>v=.bool af/\bl.take (ntsL m q a b ty sV u u').length=ntsL m q a b ty sV u u'):=by
     rw[nts_vc];exact nts_ok hn ⟨rfl,rfl⟩
    refine(pick_run (C:=pT du cU ([]:List (bT Empty)) (ja 0 (lpNts m c c' x x' q a b ty sV u u'))) (_root_.Go.Proofs.YtddcipamdggcnaaGreatDoor.aK.TL emp_ok) (_root_.Go.Proofs.YtddcipamdggcnaaGreatDoor.aK.QL emp_ok) rfl hl S [i,j] (by simp[mW]) (ntsL m q a b ty sV u u') (by simp[hi,hj,ntsL]) rfl (ak:=[.dB i 0 m c x,.dB j 0 m c' x']) rfl rfl cT).mono ?_;rintro v w' ⟨rfl,S2⟩;exact⟨.bool af,[],bl,ch,rfl,by simpa using hl,by simpa using S2,hK⟩
  ·exact hc.elim
 ·exact hc.elim
def ints_quiet{G:Type}:gZ (intsC (G:=G)):=by
 intro ak bl ch K hc;unfold intsC at hc⊢;split at hc
 ·rename_i i n c x j m c' x';split at hc
  ·rename_i a ty n' g u b sV m' g' u' hi hj;cases hq:!(aC i j)with
   |false=>rw[hq]at hc;exact hc.elim
   |true=>rw[hq]at hc;exact⟨hc.1,hc.2,[],sP⟩
  ·exact hc.elim
 ·exact hc.elim
end
end Go.Proofs.YtddcipamdggcnaaGreatDoor
namespace Sx
def St.Xa{w:an}{bs:List av}(h:∀y∈bs,y.wr=ah/\w.heap[y.id]?=aa y.obj):St [] w bs w:=by
 refine St.mk' (Ch.refl _ _) (λy hy=>(h y hy).2) (λy hy e=>by rw[(h y hy).1]at e;cases e) ?_;refine List.pairwise_of_forall_mem_list (λx hx y hy hc=>?_);rcases hc with hc|hc
 ·rw[(h x hx).1]at hc;cases hc
 ·rw[(h y hy).1]at hc;cases hc
end Sx
namespace Go.Proofs.YtddcipamdggcnaaGreatDoor
section
variable{G:Type}[Bl G]
def JU(P:aL):(bA->V)->Op->List VB->List G->VK G->Prop:=λe op bl ch K=>match op with
 |.call c=>(match c.callee,c.args.toList,c.argTypes.toList with
  |.builtin .append,[s,xs],[t,tx]=>(match P.underlying t,P.underlying tx with
   |some (.slice 5),aa (.slice _)=>(match e s,e xs with
    |.sl i 0 0 0,.sl j o m c=>(match bl[j]?with
     |some ⟨_,_,[.rest [],.arr .u8 N f,.rest us]⟩=>cond (bY bl.length bl) ((o+m<=N/\m<=c/\m<=1000000)/\(m=0->K (.sl i 0 0 0) bl ch)/\(0<m->∀d:Nat,K (.sl bl.length 0 m (m+d)) (bl++[hU m d (λj=>f (o+j))]) ch)) False
     |_=>False)
    |_,_=>False)
   |_,_=>False)
  |_,_,_=>False)
 |_=>False
def Xb{gl:Nat->Option Nat}:iF (G:=G) du gl (JU du):=by
 intro e op ae bl ch R ms w0 w K ρ o hg hl S bo ho h;unfold JU at h;split at h
 ·rename_i c;split at h
  ·rename_i s xs t tx fc cN dX;split at h
   ·rename_i T ht gj;split at h
    ·rename_i i j q m c' gV fV;split at h
     ·rename_i wr ty N f us hb;cases hq:bY bl.length bl with
      |false=>rw[hq]at h;exact h.elim
      |true=>
       rw[hq]at h;simp only[cond_true]at h;obtain⟨⟨hn,auV,hm⟩,h0,h1⟩:=h;have aV:=(gp hl S hb).2;have h8:cJ w (ae.getD j 0) q m (λj=>f (q+j)):=W8 aV hn;have hk:ei w (aa ⟨ae.getD j 0,q,ag⟩) m c' (λj=>f (q+j)):=⟨hm,auV,(λe=>nomatch e),λx e k hkm=>by
        obtain rfl:=cP e;rw[iY];exact h8 k hkm⟩
       have fh:=Ed (P:=du) hk gj;obtain⟨mJ,ar,iO⟩:=c;simp only at fc cN dX;have e2:ar=#[s,xs]:=by rw[<-cN]
       have e3:iO=#[t,tx]:=by rw[<-dX]
       subst fc e2 e3;have kF:ρ s=.slice (aa ⟨ae.getD i 0,0,ag⟩) 0 0:=by rw[bo,gV];simp only[den]
       have oT:ρ xs=.slice (aa ⟨ae.getD j 0,q,ag⟩) m c':=by rw[bo,fV];simp only[den]
       rcases uu m with rfl|m0
       ·have b_:=W6 (ty:=o.type) (t:=t) fh ht ⟨ae.getD i 0,0,ag⟩;refine⟨_,[],_,_,w,.inl ?_,by simpa using hl,by simpa using S,h0 rfl⟩;rw[jU (P:=du) (ρ:=ρ) (o:=o) ho kF oT b_];simp only[cy,den]
       ·obtain⟨c2,w2,b_,cz,hle,vB⟩:=OX (x:=aa ⟨ae.getD j 0,q,ag⟩) (ty:=o.type) (t:=t) fh ht m0 oM ⟨ae.getD i 0,0,ag⟩;have h2:=h1 m0 (c2-m);rw[show m+(c2-m)=c2 by omega]at h2;refine⟨_,[w.heap.size],_,_,w2,.inl ?_,by simp[hl],?_,h2⟩
        ·rw[jU (P:=du) (ρ:=ρ) (o:=o) ho kF oT b_];simp only[den];rw[<-hl,lY]
        ·have e:aI (ae++[w.heap.size]) w.heap.size (hU m (c2-m) (λj=>f (q+j)))=⟨w.heap.size,af,.cells (bM m (λj=>f (q+j)) c2) 5 (0,0)⟩:=by
          unfold aI;rw[JS,show m+(c2-m)=c2 by omega];rfl
         rw[fw _ _ _ _ hl,fy _ _ (by rw[hl];exact hq)];simp only[lits,e];refine(S.new cz (cW _) vB).perm ?_;rw[bZ];exact kY.symm
     ·exact h.elim
    ·exact h.elim
   ·exact h.elim
  ·exact h.elim
 ·exact h.elim
end
def auW(N:Nat)(f:Nat->Int)(us:List aj)(o m c:Nat)(K:VK Empty):Prop:=
 (o+m<=N/\m<=c/\m<=1000000)/\(m=0->K (.sl 1 0 0 0) [ky N f us,⟨af,⟨5,(0,0)⟩,[]⟩] [])/\(0<m->∀d:Nat,K (.sl 1 0 m (m+d)) [ky N f us,hU m d (λj=>f (o+j))] [])
def auX(N:Nat)(f:Nat->Int)(us:List aj)(o m c:Nat)(K:VK Empty):bz (gM du cU ([]:List (bT Empty)) (JU du) Xb) 60 158 [.sl 0 o m c] [ky N f us] [] (bG 1 K)=auW N f us o m c K:=kR
def auY(b o m c N:Nat)(f:Nat->Int)(us:List aj)(w:an){ty:BT}(aV:w.heap[b]?=aa (.cells (ao [] [.rest [],.arr .u8 N f,.rest us]).toArray 5 (0,0)))(h1:o+m<=N)(h2:m<=c)(h3:m<=1000000):
 ba du 158 #[.slice (aa ⟨b,o,ag⟩) m c] w λv w'=>∃b2 c2,v=.slice (aa ⟨b2,0,ag⟩) m c2/\m<=c2/\w.heap.size<=b2/\w'.heap[b2]?=aa (.cells (bM m (λj=>f (o+j)) c2) 5 (0,0))/\Ch [] w w':=by
 have S:St [] w (lits [b] [b] [ky N f us]++ax ([]:List Empty) []) w:=by
  refine St.Xa ?_;intro y hy;simp only[lits,ax,cy,cG,py,or_false]at hy;subst hy;exact⟨rfl,aV.trans rfl⟩
 let K:VK Empty:=λv bl _=>∃x:VB,bl=[ky N f us,x]/\((m=0/\v=.sl 1 0 0 0/\x=⟨af,⟨5,(0,0)⟩,[]⟩)\/(∃d,v=.sl 1 0 m (m+d)/\x=hU m d (λj=>f (o+j))))
 have cT:bz (gM du cU ([]:List (bT Empty)) (JU du) Xb) 60 158 [.sl 0 o m c] [ky N f us] [] (bG 1 K):=by
  rw[auX];exact⟨⟨h1,h2,h3⟩,λe=>⟨_,rfl,.inl ⟨e,rfl,rfl⟩⟩,λ_ d=>⟨_,rfl,.inr ⟨d,rfl,rfl⟩⟩⟩
 have hok:aK (G:=Empty) du cU []:=aK.nil;refine(eO (C:=gM du cU ([]:List (bT Empty)) (JU du) Xb) hok.T hok.Q 60 (ae:=[b]) (λg i h=>by cases h) rfl S cT).mono ?_;rintro v w' ⟨y,aq,b9,ce,rfl,h1,S',hK⟩;obtain⟨v2,cj,ci,uh,cK,S2,x,rfl,hx⟩:=ig (n0:=1) h1 sP S' hK;have ht:List.take 1 ([b]++aq)=[b]:=rfl;rw[ht]at uh cK S2;have hm:cj.length=1:=by simpa using cK
 match cj,hm with
 |[z],_=>
  have S3:St [] w ([aI ([b]++[z]) b (ky N f us),aI ([b]++[z]) z x]++ax ce []) w':=S2;rcases hx with⟨e0,rfl,rfl⟩|⟨d,rfl,rfl⟩
  ·subst e0;refine⟨z,0,uh,cW _,(S3.own 1 _ rfl rfl).resolve_left sP,?_,S3.ch⟩;exact S3.at_ 1 _ rfl
  ·refine⟨z,m+d,uh,oM,(S3.own 1 _ rfl rfl).resolve_left sP,?_,S3.ch⟩;have:=S3.at_ 1 _ rfl;simp only[aI]at this;rw[JS]at this;exact this
end Go.Proofs.YtddcipamdggcnaaGreatDoor
namespace Go.Proofs.YtddcipamdggcnaaGreatDoor
section
variable{fr:aQ->Nat×az}
def Xc:dm (LG fr):=λak bl ch K=>match ak with
 |[.sl j o m c]=>(match bl[j]?with
  |some ⟨_,⟨5,(0,0)⟩,[.rest [],.arr .u8 N f,.rest us]⟩=>(o+m<=N/\m<=c/\m<=1000000)/\∀b:dD,b.n=m->b.f=(λj=>f (o+j))->b.x.isSome=af->K (.raw b.v) bl (ch++[.b8 b])
  |_=>False)
 |_=>False
def ae_(ae:List Nat)(N:Nat)(f:Nat->Int)(us:List aj):ao ae [.rest [],.arr .u8 N f,.rest us]=ao [] [.rest [],.arr .u8 N f,.rest us]:=by simp only[ao,cl]
def auZ{gl:Nat->Option Nat}:Sound du gl 158 (Xc (fr:=fr)):=by
 intro ak ae bl ch R ms w0 w K hg hl S hc;unfold Xc at hc;split at hc
 ·rename_i j o m c;split at hc
  ·rename_i wr N f us hb;obtain⟨⟨h1,h2,h3⟩,hK⟩:=hc;have aV:=(gp hl S hb).2;rw[ae_]at aV;refine(auY (ae.getD j 0) o m c N f us w (ty:=⟨0,(0,0)⟩) aV h1 h2 h3).mono ?_;rintro v w' ⟨b2,c2,rfl,QJ,G_,vB,cz⟩
   let b:dD:=⟨m,λj=>f (o+j),aa ⟨b2,0,ag⟩,c2,[⟨b2,af,.cells (bM m (λj=>f (o+j)) c2) 5 (0,0)⟩],QJ,.inr ⟨b2,rfl,rfl⟩⟩
   refine⟨.raw b.v,[],bl,ch++[.b8 b],rfl,by simpa using hl,?_,hK b rfl rfl rfl⟩;rw[cy,k7];have e2:ax [LG.b8 (fr:=fr) b] R=⟨b2,af,.cells (bM m (λj=>f (o+j)) c2) 5 (0,0)⟩::R:=rfl;rw[e2,fk (_::R) ch];have hn:=S.new cz G_ vB;rw[fk R ch]at hn;refine hn.perm ?_;exact dW λf=>by simp only[ee,j9];omega
  ·exact hc.elim
 ·exact hc.elim
def JV(fr:aQ->Nat×az):List (bT (LG fr)):=⟨158,ah,Xc⟩::qL (LG fr) [W7,W9]
def au0{gl:Nat->Option Nat}:aK (G:=LG fr) du gl (JV fr):=aK.cons ⟨auZ,λe=>by cases e⟩ (kG (bW.cons (auT _) (bW.cons (auU _) bW.nil)))
def j5(k s c:Int)(v:aj):V:=.agg [.int .i64 k,.int .i64 s,.int .i64 c,.raw v]
section
variable(N o n c:Nat)(f:Nat->Int)(k:V->List (LG fr)->Prop)
def O0(fd:V)(ch:List (LG fr)):Prop:=((0:Int)<=0/\(0:Int)<(n:Int))/\o+(0:Int).toNat<N/\cond (f (o+(0:Int).toNat)!=165)
 ((o+n<=N/\∀j,j<N->0<=f j/\f j<=255)/\cond (decide (vA n (λj=>f (o+j))<0)) (k (j5 1 (n:Int) 0 cC) ch) (k (j5 1 (vA n (λj=>f (o+j))) 0 cC) ch)) (k fd ch)
def FV(fd:V)(ch:List (LG fr)):Prop:=((0:Int)<=1/\(1:Int)<(n:Int))/\o+(1:Int).toNat<N/\cond (f (o+(1:Int).toNat)!=1) (O0 N o n f k (j5 3 1 10 cC) ch) (O0 N o n f k fd ch)
def afa(ch:List (LG fr)):Prop:=
 let q:=f (o+(2:Int).toNat)
 let e:=i64.wrap (3+i64.wrap q)
 let e1:=i64.wrap (e+1)
 let p1:=bif aC c (1:Int).toNat then o else o+(1:Int).toNat
 let p3:=bif aC c (3:Int).toNat then o else o+(3:Int).toNat
 ((0:Int)<=2/\(2:Int)<(n:Int))/\o+(2:Int).toNat<N/\cond (decide (i64.wrap q>32)) (FV N o n f k (j5 3 1 11 cC) ch)
   (cond (decide ((n:Int)<i64.wrap (e+2))) (FV N o n f k (j5 0 0 0 cC) ch)
    (((0:Int)<=1/\1<=e/\e<=(c:Int))/\(0<=e/\e<(n:Int))/\o+e.toNat<N/\(0<=e1/\e1<(n:Int))/\o+e1.toNat<N/\(p1+(e.toNat-(1:Int).toNat)<=N/\e.toNat-(1:Int).toNat<=1000000)/\
      cond (cn (λj=>f (p1+j)) (e.toNat-(1:Int).toNat)!=bits .or .u16 (u16.wrap (u16.wrap (f (o+e.toNat))*2^8)) (u16.wrap (f (o+e1.toNat))))
       (FV N o n f k (j5 3 1 12 cC) ch)
       (((0:Int)<=3/\3<=e/\e<=(c:Int))/\(p3+(e.toNat-(3:Int).toNat)<=N/\e.toNat-(3:Int).toNat<=c-(3:Int).toNat/\e.toNat-(3:Int).toNat<=1000000)/\
         ∀b:dD,b.n=e.toNat-(3:Int).toNat->b.f=(λj=>f (p3+j))->b.x.isSome=af->FV N o n f k (j5 2 (i64.wrap (e+2)) 0 b.v) (ch++[.b8 b]))))
def vC(n:Nat):Int:=if(3:Int)<(n:Int)then 3 else(n:Int)
def Xd(ch:List (LG fr)):Prop:=cond (vC n==3) (afa N o n c f k ch) (cond (vC n==2) (FV N o n f k (j5 0 0 0 cC) ch) (cond (vC n==1) (O0 N o n f k (j5 0 0 0 cC) ch) (k (j5 0 0 0 cC) ch)))
end
def au1(N o n c:Nat)(f:Nat->Int)(us:List aj)(ch:List (LG fr))(K:VK (LG fr)):
 bz (bU du cU (JV fr)) 60 88 [.sl 0 o n c] [ky N f us] ch (bG 1 K)=Xd N o n c f (λv ch=>K v [ky N f us] ch) ch:=kR
def au2{x y:Int}(hx:0<=x/\x<=255)(hy:0<=y/\y<=255):bits .or .u16 (u16.wrap (u16.wrap x*2^8)) (u16.wrap y)=x*256+y:=by
 have e3:u16.wrap (u16.wrap x*2^8)=x*256:=by
  rw[Zh,Zh];omega
 have e4:u16.wrap y=y:=by rw[Zh];omega
 rw[e3,e4];obtain⟨a,rfl⟩:∃a:Nat,x=a:=⟨x.toNat,oM⟩;obtain⟨b,rfl⟩:∃b:Nat,y=b:=⟨y.toNat,oM⟩;have vW:a<256:=oM;have xG:b<256:=oM;unfold bits;have h1:(qt 16 ((a:Int)*256)).toNat=a*256:=by simp only[K1];omega
 have h2:(qt 16 (b:Int)).toNat=b:=by simp only[K1];omega
 have h3:(a*256|||b)=a*256+b:=by
  have:=Nat.shiftLeft_add_eq_or_of_lt (i:=8) (b:=b) oM a;rw[Nat.shiftLeft_eq]at this;exact this.symm
 show u16.wrap (((qt 16 ((a:Int)*256)|||qt 16 (b:Int)).toNat:Nat):Int)=_;rw[BitVec.toNat_or,h1,h2,h3,Zh];omega
section
variable{N o n c:Nat}{f:Nat->Int}{k:V->List (LG fr)->Prop}
def Xe(hn:0<n)(h1:o+n<=N)(hb:∀j,j<N->0<=f j/\f j<=255){fd:V}{ch:List (LG fr)}(hs:f (o+0)≠165->k (j5 1 ((Sd.j4 (λj=>f (o+j)) n 0:Nat):Int) 0 cC) ch)(hf:f (o+0)=165->k fd ch):O0 N o n f k fd ch:=by
 refine⟨⟨uy _,oM⟩,by show o+0<N;omega,aN (λe=>?_) (λe=>hf (by simpa using e))⟩;have e':f (o+0)≠165:=by simpa using e
 have hle:=Sd.JT (λj=>f (o+j)) n 0;refine⟨⟨h1,hb⟩,aN (λe2=>?_) (λe2=>?_)⟩
 ·have e2:=of_decide_eq_true e2;unfold vA at e2;cases hq:aC (Sd.j4 (λj=>f (o+j)) n 0) n with
  |true=>have:=cw hq;have h:=hs e';rw[this]at h;exact h
  |false=>rw[hq]at e2;simp only[cond_false]at e2;omega
 ·have e2:=of_decide_eq_false e2;unfold vA at e2⊢;cases hq:aC (Sd.j4 (λj=>f (o+j)) n 0) n with
  |true=>rw[hq]at e2;exact absurd (by decide:(-1:Int)<0) e2
  |false=>exact hs e'
def JW(hn:1<n)(h1:o+n<=N)(hb:∀j,j<N->0<=f j/\f j<=255){fd:V}{ch:List (LG fr)}(hs:f (o+0)≠165->k (j5 1 ((Sd.j4 (λj=>f (o+j)) n 0:Nat):Int) 0 cC) ch)(hv:f (o+0)=165->f (o+1)≠1->k (j5 3 1 10 cC) ch)
 (hf:f (o+0)=165->f (o+1)=1->k fd ch):FV N o n f k fd ch:=
 ⟨⟨dC,oM⟩,by show o+1<N;omega,aN (λe=>Xe oM h1 hb hs (λh=>hv h (by simpa using e))) (λe=>Xe oM h1 hb hs (λh=>hf h (by simpa using e)))⟩
structure NxK(n:Nat)(g:Nat->Int)(k:V->List (LG fr)->Prop)(ch:List (LG fr)):Prop where
 no:(Sd.dZ cn n g).kind≠2->∀ce,(∃l,ce=ch++l)->k (j5 (Sd.dZ cn n g).kind ((Sd.dZ cn n g).size:Nat) (Sd.dZ cn n g).code cC) ce
 yes:(Sd.dZ cn n g).kind=2->∀b:dD,b.n=(Sd.dZ cn n g).n->(∀j,b.f j=(Sd.dZ cn n g).f j)->b.x.isSome=af->k (j5 2 ((Sd.dZ cn n g).size:Nat) 0 b.v) (ch++[.b8 b])
def au3(h1:o+n<=N)(h2:n<=c)(h3:n<=1000000)(hb:∀j,j<N->0<=f j/\f j<=255){ch:List (LG fr)}(hk:NxK n (λj=>f (o+j)) k ch):Xd N o n c f k ch:=by
 obtain⟨iL,Js⟩:=hk;have cz:∀l,∃l',ch++l=ch++l':=λl=>⟨l,rfl⟩;have qk:∃l',ch=ch++l':=⟨[],sP⟩;have FX:n≠0->f (o+0)≠165->∀ce,(∃l,ce=ch++l)->k (j5 1 ((Sd.j4 (λj=>f (o+j)) n 0:Nat):Int) 0 cC) ce:=λhn h=>by
  have e:Sd.dZ cn n (λj=>f (o+j))=⟨1,Sd.j4 (λj=>f (o+j)) n 0,0,0,Sd.Dt⟩:=by unfold Sd.dZ;rw[if_neg hn,if_pos h]
  rw[e]at iL;exact iL (by show(1:Int)≠2;decide)
 unfold Xd;have hm:vC n=if n<=3 then(n:Int)else 3:=by unfold vC;split<;>split<;>omega
 refine aN (λe=>?_) λe0=>aN (λe=>?_) λe1=>aN (λe=>?_) λe2=>?_
 ·have e:vC n=3:=by simpa using e
  have hn:3<=n:=by rw[hm]at e;split at e<;>omega
  have O1:f (o+0)=165->f (o+1)≠1->∀ce,(∃l,ce=ch++l)->k (j5 3 1 10 cC) ce:=λa b=>by
   have e:Sd.dZ cn n (λj=>f (o+j))=Sd.A7 10:=by unfold Sd.dZ;rw[if_neg oM,if_neg (by simpa using a),if_neg oM,if_pos b]
   rw[e]at iL;exact iL dC
  have hq:=hb (o+2) oM;have nx:f (o+0)=165->f (o+1)=1->Sd.dZ cn n (λj=>f (o+j))=(if 32<f (o+2)then Sd.A7 11 else if n<5+(f (o+2)).toNat then Sd.zm else if cn (λj=>f (o+(1+j))) (2+(f (o+2)).toNat)≠f (o+(3+(f (o+2)).toNat))*256+f (o+(4+(f (o+2)).toNat))then Sd.A7 12 else⟨2,5+(f (o+2)).toNat,0,(f (o+2)).toNat,λj=>f (o+(3+j))⟩):=λa b=>by
   unfold Sd.dZ;rw[if_neg oM,if_neg (by simpa using a),if_neg oM,if_neg (by simpa using b),if_neg oM]
  unfold afa;have t2:o+(2:Int).toNat=o+2:=rfl;have w0:i64.wrap (f (o+2))=f (o+2):=lg oM;dsimp only;rw[t2,w0];generalize hgq:f (o+2)=q at hq nx w0⊢;obtain⟨m,rfl⟩:∃m:Nat,q=m:=⟨q.toNat,oM⟩;rw[show i64.wrap (3+(m:Int))=((3+m:Nat):Int) by rw[lg oM];omega];rw[show i64.wrap (((3+m:Nat):Int)+1)=((4+m:Nat):Int) by rw[lg oM];omega,show i64.wrap (((3+m:Nat):Int)+2)=((5+m:Nat):Int) by rw[lg oM];omega];simp only[tf]at nx⊢;refine⟨⟨dC,oM⟩,oM,aN (λe3=>?_) λe3=>aN (λe4=>?_) λe4=>?_⟩
  ·have e3:=of_decide_eq_true e3;refine JW oM h1 hb (λh=>FX oM h _ qk) (λa b=>O1 a b _ qk) (λa b=>?_);have:=nx a b;rw[if_pos oM]at this;rw[this]at iL;exact iL dC _ qk
  ·have e3:=of_decide_eq_false e3;have e4:=of_decide_eq_true e4;refine JW oM h1 hb (λh=>FX oM h _ qk) (λa b=>O1 a b _ qk) (λa b=>?_);have:=nx a b;rw[if_neg oM,if_pos oM]at this;rw[this]at iL;exact iL dC _ qk
  ·have e3:=of_decide_eq_false e3;have e4:=of_decide_eq_false e4;have p1:(bif aC c (1:Int).toNat then o else o+(1:Int).toNat)=o+1:=by
    have:aC c (1:Int).toNat=ah:=by
     cases hq:aC c (1:Int).toNat with
     |false=>rfl
     |true=>have:=cw hq;have e:(1:Int).toNat=1:=rfl;omega
    rw[this];rfl
   have p3:(bif aC c (3:Int).toNat then o else o+(3:Int).toNat)=o+3:=by
    have:aC c (3:Int).toNat=ah:=by
     cases hq:aC c (3:Int).toNat with
     |false=>rfl
     |true=>have:=cw hq;have e:(3:Int).toNat=3:=rfl;omega
    rw[this];rfl
   rw[p1,p3];have d1:3+m-(1:Int).toNat=2+m:=by have e:(1:Int).toNat=1:=rfl;omega
   have d3:3+m-(3:Int).toNat=m:=by have e:(3:Int).toNat=3:=rfl;omega
   have c3:c-(3:Int).toNat=c-3:=rfl;have b3:=hb (o+(3+m)) oM;have b4:=hb (o+(4+m)) oM;rw[d1,d3,c3,au2 b3 b4];have ec:(λj=>f (o+1+j))=λj=>f (o+(1+j)):=by funext j;rw[ux]
   have ec3:(λj=>f (o+3+j))=λj=>f (o+(3+j)):=by funext j;rw[ux]
   rw[ec,ec3];refine⟨⟨dC,oM,oM⟩,⟨oM,oM⟩,oM,⟨oM,oM⟩,oM,⟨oM,oM⟩,aN (λe5=>?_) λe5=>⟨⟨dC,oM,oM⟩,⟨oM,oM,oM⟩,λb rI BZ hx=>?_⟩⟩
   ·have e5:cn (λj=>f (o+(1+j))) (2+m)≠f (o+(3+m))*256+f (o+(4+m)):=by simpa using e5
    refine JW oM h1 hb (λh=>FX oM h _ qk) (λa b=>O1 a b _ qk) (λa b=>?_);have:=nx a b;rw[if_neg oM,if_neg oM,if_pos e5]at this;rw[this]at iL;exact iL dC _ qk
   ·have e5:¬cn (λj=>f (o+(1+j))) (2+m)≠f (o+(3+m))*256+f (o+(4+m)):=by simpa using e5
    refine JW oM h1 hb (λh=>FX oM h _ (cz _)) (λa b=>O1 a b _ (cz _)) (λa b'=>?_);have:=nx a b';rw[if_neg oM,if_neg oM,if_neg e5]at this;rw[this]at Js;exact Js rfl b rI (λj=>by rw[BZ]) hx
 ·have e:vC n=2:=by simpa using e
  have hn:n=2:=by rw[hm]at e;split at e<;>omega
  subst hn;refine JW dC h1 hb (λh=>FX dC h _ qk) (λa b=>?_) (λa b=>?_)
  ·have e:Sd.dZ cn 2 (λj=>f (o+j))=Sd.A7 10:=by unfold Sd.dZ;rw[if_neg oM,if_neg (by simpa using a),if_neg oM,if_pos b]
   rw[e]at iL;exact iL dC _ qk
  ·have e:Sd.dZ cn 2 (λj=>f (o+j))=Sd.zm:=by unfold Sd.dZ;rw[if_neg oM,if_neg (by simpa using a),if_neg oM,if_neg (by simpa using b),if_pos rfl]
   rw[e]at iL;exact iL dC _ qk
 ·have e:vC n=1:=by simpa using e
  have hn:n=1:=by rw[hm]at e;split at e<;>omega
  subst hn;refine Xe dC h1 hb (λh=>FX dC h _ qk) (λa=>?_);have e:Sd.dZ cn 1 (λj=>f (o+j))=Sd.zm:=by unfold Sd.dZ;rw[if_neg oM,if_neg (by simpa using a),if_pos rfl]
  rw[e]at iL;exact iL dC _ qk
 ·have e0:vC n≠3:=by simpa using e0
  have e1:vC n≠2:=by simpa using e1
  have e2:vC n≠1:=by simpa using e2
  have hn:n=0:=by
   rw[hm]at e0 e1 e2;split at e0<;>omega
  subst hn;have e:Sd.dZ cn 0 (λj=>f (o+j))=Sd.zm:=by unfold Sd.dZ;rw[if_pos rfl]
  rw[e]at iL;exact iL dC _ qk
def OL:dm (LG fr):=λak bl ch K=>match ak with
 |[.sl j o n c]=>(match bl[j]?with
  |some ⟨_,⟨5,(0,0)⟩,[.rest [],.arr .u8 N f,.rest us]⟩=>(o+n<=N/\n<=c/\n<=1000000/\∀j,j<N->0<=f j/\f j<=255)/\
   ((Sd.dZ cn n (λj=>f (o+j))).kind=0->K (j5 0 0 0 cC) bl ch)/\
   ((Sd.dZ cn n (λj=>f (o+j))).kind=1->K (j5 1 ((Sd.dZ cn n (λj=>f (o+j))).size:Nat) 0 cC) bl ch)/\
   ((Sd.dZ cn n (λj=>f (o+j))).kind=3->K (j5 3 ((Sd.dZ cn n (λj=>f (o+j))).size:Nat) (Sd.dZ cn n (λj=>f (o+j))).code cC) bl ch)/\
   ((Sd.dZ cn n (λj=>f (o+j))).kind=2->∀b:dD,b.n=(Sd.dZ cn n (λj=>f (o+j))).n->(∀j,b.f j=(Sd.dZ cn n (λj=>f (o+j))).f j)->b.x.isSome=af->K (j5 2 ((Sd.dZ cn n (λj=>f (o+j))).size:Nat) 0 b.v) bl (ch++[.b8 b]))
  |_=>False)
 |_=>False
def au4{n:Nat}{g:Nat->Int}:let d:=Sd.dZ cn n g;(d.kind=0/\d.size=0/\d.code=0)\/(d.kind=1/\d.code=0)\/(d.kind=3)\/(d.kind=2/\d.code=0):=by
 unfold Sd.dZ;dsimp only
 repeat' split
 all_goals simp[Sd.zm,Sd.A7]
def au5{gl:Nat->Option Nat}:Sound du gl 88 (OL (fr:=fr)):=by
 intro ak ae bl ch R ms w0 w K hg hl S hc;unfold OL at hc;split at hc
 ·rename_i j o n c;split at hc
  ·rename_i wr N f us hb;obtain⟨⟨h1,h2,h3,kC⟩,k0,k1,k3,k2⟩:=hc;have aV:=(gp hl S hb).2;rw[ae_]at aV;have aV:w.heap[ae.getD j 0]?=aa (.cells (ao [] [.rest [],.arr .u8 N f,.rest us]).toArray 5 (0,0)):=aV;have ha:(aJ ae [V.sl j o n c]).toArray=#[.slice (aa ⟨ae.getD j 0,o,ag⟩) n c]:=by simp only[aJ,den]
   rw[ha];generalize ae.getD j 0=b at aV⊢;have S':St [] w (lits [b] [b] [ky N f us]++ax ([]:List (LG fr)) []) w:=by
    refine St.Xa ?_;intro y hy;simp only[lits,ax,cy,cG,py,or_false]at hy;subst hy;exact⟨rfl,aV.trans rfl⟩
   let d:=Sd.dZ cn n (λj=>f (o+j))
   let X:VK (LG fr):=λv bl ch=>bl=[ky N f us]/\((d.kind≠2/\v=j5 d.kind (d.size:Nat) d.code cC)\/(d.kind=2/\∃b:dD,v=j5 2 (d.size:Nat) 0 b.v/\ch=[.b8 b]/\b.n=d.n/\(∀j,b.f j=d.f j)/\b.x.isSome=af))
   have cT:bz (bU du cU (JV fr)) 60 88 [.sl 0 o n c] [ky N f us] [] (bG 1 X):=by
    rw[au1];exact au3 h1 h2 h3 kC ⟨λe ce _=>⟨rfl,.inl ⟨e,rfl⟩⟩,λe b e1 e2 e3=>⟨rfl,.inr ⟨e,b,rfl,rfl,e1,e2,e3⟩⟩⟩
   have hok:aK (G:=LG fr) du cU (JV fr):=au0;refine(eO (C:=bU du cU (JV fr)) hok.T hok.Q 60 (ae:=[b]) (λg i h=>by cases h) rfl S' cT).mono ?_;rintro v w' ⟨y,aq,b9,ce,rfl,g1,g2,hK⟩;obtain⟨v2,cj,ci,uh,cK,S2,rfl,hX⟩:=ig (n0:=1) g1 sP g2 hK;rw[uh];have afb:∀(is:List Nat)(k s c:Int)(v:aj),den is (j5 k s c v)=den ae (j5 k s c v):=λis k s c v=>by simp only[j5,den,ao,cl]
   rcases hX with⟨hk,rfl⟩|⟨hk,b8,rfl,rfl,e1,e2,e3⟩
   ·refine⟨_,[],bl,ch,afb _ _ _ _ _|>.trans (by rw[cy]),by simpa using hl,by simpa using S.quiet S2.ch,?_⟩;have hd:(d.kind=0/\d.size=0/\d.code=0)\/(d.kind=1/\d.code=0)\/(d.kind=3)\/(d.kind=2/\d.code=0):=au4;rcases hd with⟨a1,a2,a3⟩|⟨a1,a2⟩|a1|⟨a1,_⟩
    ·have:=k0 a1;rw[a1,a2,a3];exact this
    ·have:=k1 a1;rw[a1,a2];exact this
    ·have:=k3 a1;rw[a1];exact this
    ·exact absurd a1 hk
   ·obtain⟨kD,ji⟩:=b8.h;rcases ji with⟨ex,_⟩|⟨b2,ex,eB⟩
    ·rw[ex]at e3;cases e3
    ·have S3:St [] w (lits _ _ _++(b8.B++[])) w':=S2;rw[eB]at S3;have hm:(⟨b2,af,.cells (bM b8.n b8.f b8.c) 5 (0,0)⟩:av)∈lits (List.take 1 ([b]++aq)++cj) (List.take 1 ([b]++aq)++cj) [ky N f us]++([⟨b2,af,.cells (bM b8.n b8.f b8.c) 5 (0,0)⟩]++[]):=sP;have hn:=S.new S3.ch ((S3.nN hm rfl).resolve_left sP) (S3.at' hm);refine⟨_,[],bl,ch++[.b8 b8],afb _ _ _ _ _|>.trans (by rw[cy]),by simpa using hl,?_,k2 hk b8 e1 e2 e3⟩;rw[cy,k7];have e4:ax [LG.b8 (fr:=fr) b8] R=⟨b2,af,.cells (bM b8.n b8.f b8.c) 5 (0,0)⟩::R:=by show b8.B++R=_;rw[eB];rfl
     rw[e4,fk (_::R) ch];rw[fk R ch]at hn;refine hn.perm ?_;exact dW λf=>by simp only[ee,j9];omega
  ·exact hc.elim
 ·exact hc.elim
end
def Xf(P:aL):(bA->V)->Op->List VB->List (LG fr)->VK (LG fr)->Prop:=λe op bl ch K=>match op with
 |.buildSlice t 0 ps=>(match ps.toList,P.underlying t with
  |[],aa (.slice T)=>(match eI P T,lX P T with
   |some (z+1),aa zc=>cond (aC (cM zc) (z+1)) (∀r:bD,r.T=T->r.z=z+1->r.os=[]->r.n=0->K r.v bl (ch++[.row r])) False
   |_,_=>False)
  |_,_=>False)
 |.call c=>(match c.callee,c.args.toList,c.argTypes.toList with
  |.builtin .append,[s,xs],[t,tx]=>(match P.underlying t,P.underlying tx with
   |some (.slice T),aa (.slice _)=>(match tP P T,e xs,ch with
    |some (z,ct),.dB i 0 m cc x,.br u::.core g fB::.row r::rest=>(match bl[i]?with
     |some ⟨_,_,[.gm z' m' f,.rest _]⟩=>cond (aC z z'&&ck ct 10000000)
      ((e s=r.v/\r.T=T/\r.z=z/\m'=m/\(∀j,(f j).length=z)/\(∀j u,u∈f j->u.oneCell'=af)/\r.n+m<=1000000)/\
        ∀r2:bD,r2.T=r.T->r2.z=r.z->r2.os=r.os++(bg m).flatMap f->r2.n=r.n+m->K r2.v bl (.br u::.core g fB::.row r2::rest)) False
     |_=>False)
    |_,_,_=>False)
   |_,_=>False)
  |_,_,_=>False)
 |_=>False
def Xg{z:Nat}{f:Nat->List aj}(h:∀j,(f j).length=z):∀m,((bg m).flatMap f).length=m*z
 |0=>sP
 |m+1=>by rw[vK,vL,fH,Xg h m];simp[h,oD]
def lgB(u:an)(g:Gh fr)(fB:List av)(r:bD)(rest:List (LG fr))(R:List av):ax (LG.br u::LG.core g fB::LG.row r::rest) R=(cA u++(g.F.B++fB))++(r.bl++ax rest R):=by
 show cA u++((g.F.B++fB)++(r.bl++ax rest R))=_;simp only[bZ]
def au6{P:aL}{gl:Nat->Option Nat}:iF P gl (Xf (fr:=fr) P):=by
 intro e op ae bl ch R ms w0 w K ρ o hg hl S bo ho h;unfold Xf at h;split at h
 ·rename_i t ps;split at h
  ·rename_i T rU hu;split at h
   ·rename_i z zc hz Rs;cases hq:aC (cM zc) (z+1)with
    |false=>rw[hq]at h;exact h.elim
    |true=>
     rw[hq]at h;simp only[cond_true]at h;have b_:=aal (P:=P) (ae:=ae) (w:=w) (len:=0) (ps:=[]) (c:=[]) hu hz Rs (cw hq) sP rfl
     let r:bD:=⟨T,z+1,[],aa ⟨w.heap.size,0,ag⟩,0,0,[⟨w.heap.size,af,.cells #[] T (0,0)⟩],sP,cW _,.inr ⟨w.heap.size,[],rfl,rfl,sP⟩⟩
     have hn:=S.new (Ch.alloc [] w (.cells #[] T)) (cW _) (oB w _);refine⟨r.v,[],bl,ch++[.row r],w.alloc (.cells #[] T),.inl ?_,by simpa using hl,?_,h r rfl rfl rfl rfl⟩
     ·unfold execOp;have hp0:ps=#[]:=by apply fP;simpa using rU
      subst hp0;simp only[ho];rw[bH];have h2:(Za t 0 #[]).run P w=.ok (.slice (aa ⟨w.heap.size,0,ag⟩) 0 0) (w.alloc (.cells #[] T)):=b_;have h3:((#[]:Array (Nat×bA)).map λ(x:Nat×bA)=>match x with|(i,x)=>(i,ρ x))=#[]:=sP;rw[h3,h2];rfl
     ·rw[cy,k7];have e2:ax [LG.row (fr:=fr) r] R=⟨w.heap.size,af,.cells #[] T (0,0)⟩::R:=rfl;rw[e2,fk (_::R) ch];rw[fk R ch]at hn;refine hn.perm ?_;exact dW λf=>by simp only[ee,j9];omega
   ·exact h.elim
  ·exact h.elim
 ·rename_i c;split at h
  ·rename_i s xs t tx fc cN dX;split at h
   ·rename_i T T' ht gj;split at h
    ·rename_i z ct i m cc x u g fB r rest cE fV;split at h
     ·rename_i wr ty z' m' f us hb;cases hq:aC z z'&&ck ct 10000000 with
      |false=>rw[hq]at h;exact h.elim
      |true=>
       rw[hq]at h;simp only[cond_true]at h;simp only[bJ]at hq;obtain⟨q1,q4⟩:=hq;obtain rfl:=cw q1;have q4:=eU q4;obtain⟨⟨hs,rfl,rfl,rfl,hf,Xh,hn⟩,hK⟩:=h;have hi:(P.info? r.T).map (λi=>(i.zero.map (·.cells.size),i.size,i.bytes))=aa (aa r.z,r.z,ct):=by
        unfold tP at cE;split at cE
        ·rename_i inf uW;split at cE
         ·rename_i v hv;cases rV:aC v.cells.size inf.size with
          |false=>rw[rV]at cE;simp at cE
          |true=>
           rw[rV]at cE;simp only[cond_true,a_,bI]at cE;have:=cw rV;simp[uW,hv,this,cE.1,cE.2]
         ·cases cE
        ·cases cE
       have aV:=(gp hl S hb).2;have dl:=Xg hf m';have mK:∀u∈(bg m').flatMap f,u.oneCell'=af:=λu hu=>by
        obtain⟨j,_,hj⟩:=List.mem_flatMap.1 hu;exact Xh j u hj
       have fh:Src P r.z tx (.slice (bif aC m' 0 then x else aa ⟨ae.getD i 0,0,ag⟩) m' cc) m' ((bg m').flatMap f) w:=by
        by_cases h0:m'=0
        ·subst h0;cases x with
         |none=>exact Src.ofNil w gj cc
         |some a=>exact qu w gj a 0 cc [] sP (λj u hj=>by simp at hj) (λu hu=>by simp at hu)
        ·have uP:aC m' 0=ah:=by
          cases uP:aC m' 0 with
          |false=>rfl
          |true=>exact absurd (cw uP) h0
         rw[uP];refine qu w gj ⟨ae.getD i 0,0,ag⟩ m' cc _ dl (λj u hj=>?_) mK;rw[iY,cell_of aV];simp only[ao,cl,cy];have JX:j<((bg m').flatMap f).length:=by
          rcases di j ((bg m').flatMap f).length with h|h
          ·exact h
          ·rw[jA h]at hj;cases hj
         rw[j7,d_,gB JX];exact hj
       have e1:lits ae ae bl++ax (LG.br u::LG.core g fB::LG.row r::rest) R=(lits ae ae bl++(cA u++(g.F.B++fB)))++(r.bl++ax rest R):=by
        simp only[lgB,bZ]
       rw[e1]at S;have iM:(r.n+m')*ct<=140737488355328:=h_ (Nat.mul_le_mul hn q4) dC;obtain⟨v,w',b_,hc,x',c',b9,rfl,gi,n5⟩:=BN (P:=P) (ty:=o.type) r.h (λy hy=>S.at' (by simp[hy])) ct fh ht hi iM (h_ hn dC);have S2:=S.uG r.h.wr hc (λy hy=>(n5 y hy).1) (λy hy=>(n5 y hy).2) gi.pw;refine⟨_,[],bl,_,w',.inl ?_,by simpa using hl,?_,hK ⟨r.T,r.z,_,x',r.n+m',c',b9,gi⟩ rfl rfl rfl rfl⟩
       ·obtain⟨mJ,ar,iO⟩:=c;simp only at fc cN dX;have e2:ar=#[s,xs]:=by rw[<-cN]
        have e3:iO=#[t,tx]:=by rw[<-dX]
        subst fc e2 e3;have:=jU (P:=P) (ρ:=ρ) (o:=o) ho (sv:=.slice r.x r.n r.c) (xv:=.slice (bif aC m' 0 then x else aa ⟨ae.getD i 0,0,ag⟩) m' cc) (by rw[bo,hs];simp only[bD.v,den]) (by rw[bo,fV];simp only[den]) b_;simpa[den,bD.v]using this
       ·rw[cy];have e4:lits ae ae bl++ax (LG.br u::LG.core g fB::LG.row ⟨r.T,r.z,r.os++(bg m').flatMap f,x',r.n+m',c',b9,gi⟩::rest) R=(lits ae ae bl++(cA u++(g.F.B++fB)))++(b9++ax rest R):=by
         simp only[lgB,bZ]
        rw[e4];exact S2
     ·exact h.elim
    ·exact h.elim
   ·exact h.elim
  ·exact h.elim
 ·exact h.elim
end
end Go.Proofs.YtddcipamdggcnaaGreatDoor
namespace Vx
variable{G:Type}[Bl G]
def scK(rec:List V->List VB->List G->oO G->Prop)(K:oO G):oO G:=λe fr bl ch=>match e with
 |.normal=>rec fr bl ch K
 |_=>False
def O2(C:Ctx G)(n:Nat)(f:fG)(ak:List V)(bl:List VB)(ch:List G)(K:VK G):Prop:=match C.P.funcs[f]?with
 |some fn=>(match fn.body with
  |some (.seq a (.scope b))=>uT C n a (ak++pS (fn.ntmps-ak.length)) bl ch (scK (uT C n b) (Ck C.P fn K))
  |_=>False)
 |none=>False
def au7{C:Ctx G}(hT:∀f c,C.T f=aa c->Sound C.P C.gl f c)(hQ:nZ C)(n:Nat){f:Nat}{ak:List V}{ae:List Nat}{bl:List VB}{ch:List G}{R:List av}{ms:List Nat}{w0 w:an}{K:VK G}
 (hg:Gl C.gl ae) (hl:ae.length=bl.length) (S:St ms w0 (lits ae ae bl++ax ch R) w) (h:O2 C n f ak bl ch K):
 ba C.P f (aJ ae ak).toArray w λv w'=>∃x aq b9 ce,v=den (ae++aq) x/\(ae++aq).length=b9.length/\St ms w0 (lits (ae++aq) (ae++aq) b9++ax ce R) w'/\K x b9 ce:=by
 unfold O2 at h;split at h
 ·rename_i fn hf;split at h
  ·rename_i a b hb;refine calls_of_wp hf hb ?_;have e:({tmps:=(aJ ae ak).toArray++zL (fn.ntmps-(aJ ae ak).toArray.size) undef,defers:=[]}:Act)=act ae (ak++pS (fn.ntmps-ak.length)):=by
    simp only[act,R7,R6];congr 1;apply fP;simp[rQ]
   rw[e];refine wp_seq (wpIn_wide (n:=0)|>.1 (sound hT hQ n ag a hg hl S h ?_).1);intro e1 Cd aq jX Si w1 g1 g2 g3;unfold scK at g3;split at g3
   ·refine wp_scope_straight (wpIn_wide (n:=0)|>.1 (sound hT hQ n ag b (hg.app aq) g1 g2 g3 ?_).1);intro e2 pN cj ci ch2 w2 k1 k2 k3;have key:=aaX (R':=λv w'=>∃x aq b9 ce,v=den (ae++aq) x/\(ae++aq).length=b9.length/\St ms w0 (lits (ae++aq) (ae++aq) b9++ax ce R) w'/\K x b9 ce) k1 k2 k3 (λx hx=>by
     rw[bZ]at k1 k2⊢;exact⟨x,aq++cj,ci,ch2,rfl,k1,k2,hx⟩)
    cases e2<;>first|exact key|(unfold Ck at k3;exact k3.elim)
   ·exact g3.elim
  ·exact h.elim
 ·exact h.elim
end Vx
namespace Go.Proofs.YtddcipamdggcnaaGreatDoor
variable{fr:aQ->Nat×az}
def ow(T z:Nat)(s:V)(m:Nat)(dt:List aj)(bl:List VB)(K:VK (LG fr)):List (LG fr)->List (LG fr)->Prop
 |_,[]=>False
 |aw,.row g::l=>bif aC g.T T then cond (aC g.z z) ((s=g.v/\g.n+m<=1000000)/\∀(x:Option aF)(c:Nat)(bk:List av)(h:dk z T (g.os++dt) x (g.n+m) c bk),K (.raw (.slice x (g.n+m) c)) bl (aw++.row ⟨T,z,g.os++dt,x,g.n+m,c,bk,h⟩::l)) False
  else ow T z s m dt bl K (aw++[.row g]) l
 |aw,g::l=>ow T z s m dt bl K (aw++[g]) l
def JY(P:aL):(bA->V)->Op->List VB->List (LG fr)->VK (LG fr)->Prop:=λe op bl ch K=>match op with
 |.call c=>(match c.callee,c.args.toList,c.argTypes.toList with
  |.builtin .append,[s,xs],[t,tx]=>(match P.underlying t,P.underlying tx with
   |some (.slice T),aa (.slice _)=>(match tP P T with
    |some (z,ct)=>(match e xs with
     |.sl i 0 m _=>(match bl[i]?with
      |some b=>cond (aC (cM b.c) (m*z)&&(bF 0 b.c&&(nU b.c&&ck ct 10000000))) (ow T z (e s) m (ao [] b.c) bl K [] ch) False
      |none=>False)
     |.dB i 0 m cc x=>(match bl[i]?with
      |some ⟨_,_,[.gm z' m' f,.rest _]⟩=>cond (aC z z'&&ck ct 10000000) ((m'=m/\(∀j,(f j).length=z)/\(∀j u,u∈f j->u.oneCell'=af))/\ow T z (e s) m ((bg m).flatMap f) bl K [] ch) False
      |_=>False)
     |_=>False)
    |none=>False)
   |_,_=>False)
  |_,_,_=>False)
 |_=>False
def afc{T z:Nat}{s:V}{m:Nat}{dt:List aj}{bl:List VB}{K:VK (LG fr)}:∀(ch aw:List (LG fr)),ow T z s m dt bl K aw ch->∃(l1:List (LG fr))(g:bD)(l2:List (LG fr)),ch=l1++.row g::l2/\g.T=T/\g.z=z/\s=g.v/\g.n+m<=1000000/\
 ∀(x:Option aF)(c:Nat)(bk:List av)(h:dk z T (g.os++dt) x (g.n+m) c bk),K (.raw (.slice x (g.n+m) c)) bl ((aw++l1)++.row ⟨T,z,g.os++dt,x,g.n+m,c,bk,h⟩::l2)
 |[],aw,h=>h.elim
 |g0::l,aw,h=>by
  have step:∀g0,ow T z s m dt bl K (aw++[g0]) l->∃(l1:List (LG fr))(g:bD)(l2:List (LG fr)),g0::l=l1++.row g::l2/\g.T=T/\g.z=z/\s=g.v/\g.n+m<=1000000/\
   ∀(x:Option aF)(c:Nat)(bk:List av)(h:dk z T (g.os++dt) x (g.n+m) c bk),K (.raw (.slice x (g.n+m) c)) bl ((aw++l1)++.row ⟨T,z,g.os++dt,x,g.n+m,c,bk,h⟩::l2):=by
   intro g0 h;obtain⟨l1,g',l2,rfl,h1,h2,h3,h4,h5⟩:=afc l _ h;refine⟨g0::l1,g',l2,rfl,h1,h2,h3,h4,?_⟩;intro x c bk hh;have:=h5 x c bk hh;simpa[bZ]using this
  cases g0 with
  |row g=>
   unfold ow at h;cases hb:aC g.T T with
   |true=>
    rw[hb]at h;simp only[cond_true]at h;cases hz:aC g.z z with
    |false=>rw[hz]at h;exact h.elim
    |true=>
     rw[hz]at h;exact⟨[],g,l,rfl,cw hb,cw hz,h.1.1,h.1.2,by simpa using h.2⟩
   |false=>rw[hb]at h;exact step _ h
  |br u=>unfold ow at h;exact step _ h
  |core g fB=>unfold ow at h;exact step _ h
  |yl y=>unfold ow at h;exact step _ h
  |b8 b=>unfold ow at h;exact step _ h
  |ou b=>unfold ow at h;exact step _ h
  |rd b=>unfold ow at h;exact step _ h
  |mu b=>unfold ow at h;exact step _ h
  |gu b=>unfold ow at h;exact step _ h
  |hJ b=>unfold ow at h;exact step _ h
def Xi{P:aL}{gl:Nat->Option Nat}:iF P gl (JY (fr:=fr) P):=by
 intro e op ae bl ch R ms w0 w K ρ o hg hl S bo ho h;unfold JY at h;split at h
 ·rename_i c;split at h
  ·rename_i s xs t tx fc cN dX;split at h
   ·rename_i T T' ht gj;split at h
    ·rename_i z ct cE;have key:∀(m cc:Nat)(a:Option aF)(dt:List aj),ck ct 10000000=af->ρ xs=.slice a m cc->Src P z tx (.slice a m cc) m dt w->ow T z (e s) m dt bl K [] ch->
      ∃x aq b9 ce w',((execOp ρ o).run P w=.ok (.value (den (ae++aq) x)) w'\/((execOp ρ o).run P w=.ok .skip w'/\x=gn))/\(ae++aq).length=b9.length/\St ms w0 (lits (ae++aq) (ae++aq) b9++ax ce R) w'/\K x b9 ce:=by
      intro m cc a dt q4 uL fh h;have q4:=eU q4;obtain⟨l1,g,l2,rfl,rfl,rfl,hs,hn,hK⟩:=afc _ _ h;have hi:=EI cE;have e1:lits ae ae bl++ax (l1++.row g::l2) R=(lits ae ae bl++ax l1 [])++(g.bl++ax l2 R):=by
       rw[k7,fk (ax (.row g::l2) R) l1];simp only[ax,bZ];rfl
      rw[e1]at S;have iM:(g.n+m)*ct<=140737488355328:=h_ (Nat.mul_le_mul hn q4) dC;obtain⟨v,w',b_,hc,x',c',b9,rfl,gi,n5⟩:=BN (P:=P) (ty:=o.type) g.h (λy hy=>S.at' (by simp[hy])) ct fh ht hi iM (h_ hn dC);have S2:=S.uG g.h.wr hc (λy hy=>(n5 y hy).1) (λy hy=>(n5 y hy).2) gi.pw;refine⟨_,[],bl,_,w',.inl ?_,by simpa using hl,?_,hK x' c' b9 gi⟩
      ·obtain⟨mJ,ar,iO⟩:=c;simp only at fc cN dX;have e2:ar=#[s,xs]:=by rw[<-cN]
       have e3:iO=#[t,tx]:=by rw[<-dX]
       subst fc e2 e3;have:=jU (P:=P) (ρ:=ρ) (o:=o) ho (sv:=.slice g.x g.n g.c) (xv:=.slice a m cc) (by rw[bo,hs];simp only[bD.v,den]) uL b_;simpa[den]using this
      ·rw[cy];have e4:lits ae ae bl++ax (([]++l1)++.row ⟨g.T,g.z,g.os++dt,x',g.n+m,c',b9,gi⟩::l2) R=(lits ae ae bl++ax l1 [])++(b9++ax l2 R):=by
        rw[fu,k7,fk (ax (_::l2) R) l1];simp only[ax,bZ];rfl
       rw[e4];exact S2
     split at h
     ·rename_i i m cc fV;split at h
      ·rename_i b hb;cases hq:aC (cM b.c) (m*z)&&(bF 0 b.c&&(nU b.c&&ck ct 10000000))with
       |false=>rw[hq]at h;exact h.elim
       |true=>
        rw[hq]at h;simp only[cond_true]at h;simp only[bJ]at hq;obtain⟨q1,q2,q3,q4⟩:=hq;have q1:=cw q1;have hd:ao ae b.c=ao [] b.c:=by have:=jI (ae:=[]) (aq:=ae) b.c q2;simpa using this
        have aV:=(gp hl S hb).2;have dl:(ao [] b.c).length=m*z:=by rw[<-q1];exact lW b.c
        refine key m cc (aa ⟨ae.getD i 0,0,ag⟩) _ q4 (by rw[bo,fV];simp only[den]) ?_ h;refine qu w gj ⟨ae.getD i 0,0,ag⟩ m cc _ dl (λj u hj=>?_) (λu hu=>BV q3 u hu);rw[iY,cell_of aV,hd];simpa using hj
      ·exact h.elim
     ·rename_i i m cc x fV;split at h
      ·rename_i wr ty z' m' f us hb;cases hq:aC z z'&&ck ct 10000000 with
       |false=>rw[hq]at h;exact h.elim
       |true=>
        rw[hq]at h;simp only[cond_true]at h;simp only[bJ]at hq;obtain⟨q1,q4⟩:=hq;obtain rfl:=cw q1;obtain⟨⟨rfl,hf,Xh⟩,h⟩:=h;have aV:=(gp hl S hb).2;have dl:=Xg hf m';have mK:∀u∈(bg m').flatMap f,u.oneCell'=af:=λu hu=>by
         obtain⟨j,_,hj⟩:=List.mem_flatMap.1 hu;exact Xh j u hj
        refine key m' cc (bif aC m' 0 then x else aa ⟨ae.getD i 0,0,ag⟩) _ q4 (by rw[bo,fV];simp only[den]) ?_ h;by_cases h0:m'=0
        ·subst h0;cases x with
         |none=>exact Src.ofNil w gj cc
         |some a=>exact qu w gj a 0 cc [] sP (λj u hj=>by simp at hj) (λu hu=>by simp at hu)
        ·have uP:aC m' 0=ah:=by
          cases uP:aC m' 0 with
          |false=>rfl
          |true=>exact absurd (cw uP) h0
         rw[uP];refine qu w gj ⟨ae.getD i 0,0,ag⟩ m' cc _ dl (λj u hj=>?_) mK;rw[iY,cell_of aV];simp only[ao,cl,cy];have JX:j<((bg m').flatMap f).length:=by
          rcases di j ((bg m').flatMap f).length with h|h
          ·exact h
          ·rw[jA h]at hj;cases hj
         rw[j7,d_,gB JX];exact hj
      ·exact h.elim
     ·exact h.elim
    ·exact h.elim
   ·exact h.elim
  ·exact h.elim
 ·exact h.elim
def A8(P:aL)(gl:Nat->Option Nat)(L:List (bT (LG fr)))(lp:Nat->List V->Option (Lp (LG fr))):Ctx (LG fr):=⟨P,qM L,gl,tO L,JY P,Xi,lp,xM,Af⟩
def afd{P:aL}{gl:Nat->Option Nat}{L:List (bT (LG fr))}{lp:Nat->List V->Option (Lp (LG fr))}(h:aK P gl L):∀f c,(A8 P gl L lp).T f=aa c->Sound (A8 P gl L lp).P (A8 P gl L lp).gl f c:=h.T
def afe{P:aL}{gl:Nat->Option Nat}{L:List (bT (LG fr))}{lp:Nat->List V->Option (Lp (LG fr))}(h:aK P gl L):nZ (A8 P gl L lp):=h.Q
end Go.Proofs.YtddcipamdggcnaaGreatDoor
namespace Go.Proofs.YtddcipamdggcnaaGreatDoor
section
variable{fr:aQ->Nat×az}
def rp(p:Int×lh):List aj:=[.int .i64 p.1,.slice p.2.x p.2.n p.2.c]
inductive lL:List (Int×lh)->List dD->List Sd.It->Prop
 |nil:lL [] [] []
 |Xj {L bs fF} (h:lL L bs fF) (code:Int) (i:Sd.It) (h1:i.code=code) (h2:i.n=0) (h3:By i.f):lL (L++[(code,⟨ag,0,0⟩)]) bs (fF++[i])
 |body {L bs fF} (h:lL L bs fF) (b:dD) (i:Sd.It) (h1:i.code=0) (h2:i.n=b.n) (h3:∀j,b.f j=i.f j) (h4:b.x.isSome=af) (h5:b.n<=32) (h6:By b.f):lL (L++[(0,⟨b.x,b.n,b.c⟩)]) (bs++[b]) (fF++[i])
def O3(N:Nat)(f:Nat->Int)(o n c k:Nat)(os:List aj)(bs:List dD):Prop:=∃L fF q,k=L.length/\os=L.flatMap rp/\lL L bs fF/\o+n<=N/\n<=c/\k+n<=N/\n<=q/\(n=0\/o+n=N)/\
 (Sd.iW cn N N f).1=fF++(Sd.iW cn q n (λj=>f (o+j))).1/\(Sd.iW cn N N f).2.1=(Sd.iW cn q n (λj=>f (o+j))).2.1/\∀j,j<(Sd.iW cn N N f).2.1->(Sd.iW cn N N f).2.2 j=(Sd.iW cn q n (λj=>f (o+j))).2.2 j
structure A9(N:Nat)(f:Nat->Int) where
 o:Nat
 n:Nat
 c:Nat
 k:Nat
 os:List aj
 x:Option aF
 cc:Nat
 bk:List av
 h:dk 2 140 os x k cc bk
 bs:List dD
 g:O3 N f o n c k os bs
def rq:List dD->List (LG fr)
 |[]=>[]
 |b::l=>.b8 b::rq l
section
variable(N:Nat)(f:Nat->Int)(us:List aj)
def Xk(s:A9 N f):List V:=[.sl 0 s.o s.n s.c,.raw (.slice s.x s.k s.cc)]
def JZ(s:A9 N f):List (LG fr):=.row ⟨140,2,s.os,s.x,s.k,s.cc,s.bk,s.h⟩::rq s.bs
def Xl:Lp (LG fr):=we (X:=A9 N f) (λs=>s.n) 35 1 [0,4] (Xk N f) (λ_=>[ky N f us]) (JZ N f) (λ_=>rfl) (λ_=>rfl) (λ_=>rfl)
def J0(fr:aQ->Nat×az):List (bT (LG fr)):=[⟨88,ah,OL⟩]
def au8:aK (G:=LG fr) du cU (J0 fr):=aK.cons ⟨au5,λe=>by cases e⟩ aK.nil
def O4:bD:=bD.nil 140 2
def j6(s:A9 N f):Sd.Fd:=Sd.dZ cn s.n (λj=>f (s.o+j))
def O5(s:A9 N f)(v:V)(ch:List (LG fr)):Prop:=
 ((0:Int)<=((j6 N f s).size:Nat)/\(((j6 N f s).size:Nat):Int)<=(s.n:Int))/\af=af/\uY (λs:A9 N f=>s.n) (Xk N f) (λ_=>[ky N f us]) (JZ N f) s
   [.sl 0 (bif aC s.c (((j6 N f s).size:Nat):Int).toNat then s.o else s.o+(((j6 N f s).size:Nat):Int).toNat) (s.n-(((j6 N f s).size:Nat):Int).toNat) (s.c-(((j6 N f s).size:Nat):Int).toNat),v] [ky N f us] ch
def alX(c:Nat)(K:VK (LG fr)):Prop:=(af=af/\uX (Xk N f) (λ_=>[ky N f us]) (JZ (fr:=fr) N f) [.sl 0 0 N c,.raw cC] [ky N f us] [.row O4])/\∀(s:A9 N f)(g:Nat->aj),
 (s.o+s.n<=N/\s.n<=s.c/\s.n<=1000000/\∀j,j<N->0<=f j/\f j<=255)/\
 ((j6 N f s).kind=0->K (.aD [.raw (.slice s.x s.k s.cc),.int .i64 (s.n:Int)]) [ky N f us] (JZ N f s))/\
 ((j6 N f s).kind=1->O5 (fr:=fr) N f us s (.raw (.slice s.x s.k s.cc)) (JZ N f s))/\
 ((j6 N f s).kind=3->(V.raw (.slice s.x s.k s.cc)=V.raw (.slice s.x s.k s.cc)/\s.k+1<=1000000)/\∀(x:Option aF)(c:Nat)(bk:List av)(h:dk 2 140 (s.os++[.int .i64 (j6 N f s).code,cC]) x (s.k+1) c bk),
   O5 (fr:=fr) N f us s (.raw (.slice x (s.k+1) c)) (.row ⟨140,2,s.os++[.int .i64 (j6 N f s).code,cC],x,s.k+1,c,bk,h⟩::rq s.bs))/\
 ((j6 N f s).kind=2->∀b:dD,b.n=(j6 N f s).n->(∀j,b.f j=(j6 N f s).f j)->b.x.isSome=af->(V.raw (.slice s.x s.k s.cc)=V.raw (.slice s.x s.k s.cc)/\s.k+1<=1000000)/\
   ∀(x:Option aF)(c:Nat)(bk:List av)(h:dk 2 140 (s.os++[.int .i64 0,b.v]) x (s.k+1) c bk),
   O5 (fr:=fr) N f us s (.raw (.slice x (s.k+1) c)) (.row ⟨140,2,s.os++[.int .i64 0,b.v],x,s.k+1,c,bk,h⟩::(rq s.bs++[.b8 b])))
def au9(c:Nat)(K:VK (LG fr)):O2 (A8 du cU (J0 fr) (λi _=>ja 0 (Xl N f us) i)) 60 75 [.sl 0 0 N c] [ky N f us] [.row O4] (bG 1 K)=alX N f us c K:=kR
end
def lL.len{L:List (Int×lh)}{bs:List dD}{fF:List Sd.It}(h:lL L bs fF):L.length=fF.length:=by
 induction h with
 |nil=>rfl
 |Xj h code i h1 h2 h3 ih=>simp[ih]
 |body h b i h1 h2 h3 h4 h5 h6 ih=>simp[ih]
def au_(q:Nat)(g:az):Sd.iW cn q 0 g=([],0,g):=Sd.ae7 rfl
def aff:∀(a:List dD)(b:dD),rq (fr:=fr) (a++[b])=rq a++[.b8 b]
 |[],_=>rfl
 |x::a,b=>by simp only[fe,rq,aff a b]
def ava{n:Nat}{g:Nat->Int}(hg:By g):By (Sd.dZ cn n g).f:=by
 have h0:By Sd.Dt:=λj=>⟨uy 0,by show(0:Int)<=255;decide⟩;unfold Sd.dZ
 repeat' split
 all_goals first|exact h0|exact λj=>hg _
section
variable{N:Nat}{f:Nat->Int}{us:List aj}
def O3.step{o n c k:Nat}{os:List aj}{bs:List dD}(h:O3 N f o n c k os bs)(hf:By f){d:Sd.Fd}(hd:d=Sd.dZ cn n (λj=>f (o+j)))(h0:d.kind≠0){os':List aj}{bs':List dD}{k':Nat}
 (qf:∀L fF,lL L bs fF->∃L',lL (L++L') bs' (fF++Sd.ug d)/\os'=os++L'.flatMap rp/\k'=k+L'.length/\L'.length<=1):
 d.size<=n/\n-d.size<n/\O3 N f (bif aC c d.size then o else o+d.size) (n-d.size) (c-d.size) k' os' bs':=by
 obtain⟨L,fF,q,h1,h2,h3,h4,h5,h6,h7,h8,h9,mR,oq⟩:=h;have dr:=Sd.OY (crc:=cn) n (λj=>f (o+j)) (by rw[<-hd];exact h0) (λj=>(hf _).1);rw[<-hd]at dr;obtain⟨L',g1,g2,g3,g4⟩:=qf L fF h3;refine⟨dr.2,oM,L++L',fF++Sd.ug d,q-1,by simp[h1,g3],by rw[g2,h2,vL],g1,?_,oM,oM,oM,?_,?_⟩
 ·cases hb:aC c d.size with
  |true=>simp only[cond_true];omega
  |false=>simp only[cond_false];omega
 ·cases hb:aC c d.size with
  |true=>have:=cw hb;exact .inl oM
  |false=>simp only[cond_false];omega
 ·obtain⟨q',rfl⟩:∃q',q=q'+1:=⟨q-1,oM⟩;have e:Sd.iW cn (q'+1) n (λj=>f (o+j))=(Sd.ug d++(Sd.iW cn q' (n-d.size) (λj=>f (o+(d.size+j)))).1,(Sd.iW cn q' (n-d.size) (λj=>f (o+(d.size+j)))).2):=by
   conv=>lhs;unfold Sd.iW
   dsimp only;rw[<-hd,if_neg h0]
  rw[e]at h9 mR oq;rw[Nat.add_sub_cancel];cases hb:aC c d.size with
  |true=>
   have hc:=cw hb;have hn:n-d.size=0:=oM;rw[hn,au_]at h9 mR oq⊢;simp only at h9 mR oq⊢;refine⟨by rw[h9];simp,mR,λj hj=>?_⟩;rw[mR]at hj;omega
  |false=>
   simp only[cond_false];have ef:(λj=>f (o+d.size+j))=λj=>f (o+(d.size+j)):=by funext j;rw[ux]
   rw[ef];refine⟨by rw[h9,bZ],mR,oq⟩
def Xm{s:A9 N f}(hf:By f)(h0:(j6 N f s).kind≠0){os':List aj}{bs':List dD}{k':Nat}(qf:∀L fF,lL L s.bs fF->∃L',lL (L++L') bs' (fF++Sd.ug (j6 N f s))/\os'=s.os++L'.flatMap rp/\k'=s.k+L'.length/\L'.length<=1)
 {x:Option aF} {cc:Nat} {bk:List av} {h:dk 2 140 os' x k' cc bk} {ch:List (LG fr)} (cz:ch=.row ⟨140,2,os',x,k',cc,bk,h⟩::rq bs'):O5 (fr:=fr) N f us s (.raw (.slice x k' cc)) ch:=by
 obtain⟨h1,h2,h3⟩:=s.g.step hf (d:=j6 N f s) rfl h0 qf;refine⟨⟨oM,oM⟩,rfl,⟨_,_,_,k',os',x,cc,bk,h,bs',h3⟩,?_,?_,rfl,cz⟩
 ·exact h2
 ·rfl
def avb(hf:By f){c:Nat}(hN:N<=c)(hb:N<=1000000){K:VK (LG fr)}
 (hK:∀(L:List (Int×lh))(bs:List dD)(n:Nat)(g:az)(x:Option aF)(cc:Nat)(bk:List av)(h:dk 2 140 (L.flatMap rp) x L.length cc bk),lL L bs (Sd.iW cn N N f).1->n=(Sd.iW cn N N f).2.1->n<=N->L.length<=N->(∀j,j<n->(Sd.iW cn N N f).2.2 j=f (N-n+j))->
  K (.aD [.raw (.slice x L.length cc),.int .i64 (n:Int)]) [ky N f us] (.row ⟨140,2,L.flatMap rp,x,L.length,cc,bk,h⟩::rq bs)):alX N f us c K:=by
 refine⟨⟨rfl,⟨0,N,c,0,[],ag,0,[],pF 2 _,[],⟨[],[],N,rfl,rfl,.nil,oM,hN,oM,cW _,.inr oM,?_,?_,?_⟩⟩,rfl,rfl,rfl⟩,λs g=>⟨?_,?_,?_,?_,?_⟩⟩
 ·simp
 ·simp
 ·simp
 ·obtain⟨L,fF,q,h1,h2,h3,h4,h5,h6,h7,h8,h9,mR,oq⟩:=s.g;exact⟨h4,h5,oM,λj _=>hf j⟩
 ·intro h0;obtain⟨o,n,cs,k,os,x,cc,bk,h,bs,L,fF,q,h1,h2,h3,h4,h5,h6,h7,h8,h9,mR,oq⟩:=s;subst h1 h2;have h0:(Sd.dZ cn n (λj=>f (o+j))).kind=0:=h0;rw[Sd.ae7 h0]at h9 mR oq;simp only[cy]at h9 mR oq;refine hK L bs n (λj=>f (o+j)) x cc bk h (by rw[h9];exact h3) mR.symm oM oM ?_;intro j hj;rw[oq j (by rw[mR];exact hj)];rcases h8 with h8|h8
  ·omega
  ·rw[show N-n+j=o+j by omega]
 ·intro hk;exact Xm hf (by rw[hk];decide) (os':=s.os) (bs':=s.bs) (k':=s.k) (λL fF h=>⟨[],by have e:Sd.ug (j6 N f s)=[]:=(by unfold Sd.ug;rw[hk];rfl);rw[e];simpa using h,sP,rfl,oG _⟩) (h:=s.h) rfl
 ·intro hk;have hle:s.k+1<=1000000:=by
   obtain⟨L,fF,q,h1,h2,h3,h4,h5,h6,h7,h8,h9,mR,oq⟩:=s.g;have:=Sd.OY (crc:=cn) s.n (λj=>f (s.o+j)) (by show(j6 N f s).kind≠0;rw[hk];decide) (λj=>(hf _).1);omega
  refine⟨⟨rfl,hle⟩,λx c bk h=>?_⟩;refine Xm hf (by rw[hk];decide) (bs':=s.bs) (k':=s.k+1) (λL fF hL=>⟨[((j6 N f s).code,⟨ag,0,0⟩)],?_,by simp[rp,cC],rfl,cW _⟩) (h:=h) rfl;have e:Sd.ug (j6 N f s)=[⟨(j6 N f s).code,0,Sd.Dt⟩]:=by unfold Sd.ug;rw[hk];rfl
  rw[e];exact .Xj hL _ _ rfl rfl (λj=>⟨uy 0,by show(0:Int)<=255;decide⟩)
 ·intro hk b h1 h2 h3;have hle:s.k+1<=1000000:=by
   obtain⟨L,fF,q,h1,h2,h3,h4,h5,h6,h7,h8,h9,mR,oq⟩:=s.g;have:=Sd.OY (crc:=cn) s.n (λj=>f (s.o+j)) (by show(j6 N f s).kind≠0;rw[hk];decide) (λj=>(hf _).1);omega
  refine⟨⟨rfl,hle⟩,λx c bk h=>?_⟩;refine Xm hf (by rw[hk];decide) (bs':=s.bs++[b]) (k':=s.k+1) (λL fF hL=>⟨[(0,⟨b.x,b.n,b.c⟩)],?_,by simp[rp,dD.v],rfl,cW _⟩) (h:=h) (by rw[aff]);have e:Sd.ug (j6 N f s)=[⟨0,(j6 N f s).n,(j6 N f s).f⟩]:=by unfold Sd.ug;rw[hk];rfl
  rw[e];refine .body hL b _ rfl h1.symm h2 h3 (by rw[h1];exact Sd.auR _ _) (λj=>?_);rw[h2 j];exact ava (λj=>hf _) j
end
end
end Go.Proofs.YtddcipamdggcnaaGreatDoor
namespace Sx
open Go Go.RowKit Go.BigFrame Vx
def St.join{ms:List Nat}{w0 w w':an}{B N:List av}(S:St ms w0 B w)(S':St [] w N w')(hw:∀y∈N,y.wr=af):St ms w0 (N++B) w':=by
 have hq:=S.quiet S'.ch;have fJ:∀y∈N,w.heap.size<=y.id:=λy hy=>(S'.nN hy (hw y hy)).resolve_left sP;refine St.mk' hq.ch ?_ ?_ ?_
 ·intro x hx;rcases dV.1 hx with hx|hx
  ·exact S'.at' hx
  ·exact hq.at' hx
 ·intro x hx h;rcases dV.1 hx with hx|hx
  ·exact .inr (h_ S.ch.size (fJ x hx))
  ·exact hq.nN hx h
 ·rw[DQ];refine⟨S'.pw,hq.pw,λx hx y hy _=>?_⟩;have h1:=fJ x hx;have h2:=S.ge hy;omega
def avc{P:aL}{w:an}{b n c m T:Nat}{f g:Nat->Int}(aV:w.heap[b]?=aa (.cells (bM n f c) T (0,0)))(mE:n+m<=c)
 {t tx ty:aP} {xv:aj} (hs:Src P 1 tx xv m (cQ m g) w) (ht:P.underlying t=aa (.slice T)) (hi:(P.info? T).map (λi=>(i.zero.map (·.cells),i.size,i.bytes))=aa (aa #[.int .u8 0],1,1)):
 ∃w',(nJ #[t,tx] ty #[.slice (aa ⟨b,0,ag⟩) n c,xv]).run P w=.ok (.slice (aa ⟨b,0,ag⟩) (n+m) c) w'/\Ch [b] w w'/\w'.heap[b]?=aa (.cells (bM (n+m) (cH n f g) c) T (0,0)):=by
 obtain⟨i,cE,hi⟩:=jr.1 hi;simp only[bI]at hi;obtain⟨hz,dr,kC⟩:=hi;obtain⟨z0,nO,qF⟩:=jr.1 hz;have kD:n<=c:=oM;have iJ:Src P i.size tx xv m (cQ m g) w:=by rw[dr];exact hs
 rcases uu m with kE|kE
 ·subst kE;refine⟨w,run_append_nothing (P:=P) w t tx ty T i ht cE (aa ⟨b,0,ag⟩) n c kD xv iJ,Ch.refl _ _,?_⟩;have e:cQ (n+0) (cH n f g)=cQ n f:=Ec λj hj=>by simp[cH,G7 (show j<n by omega)]
  have e2:bM (n+0) (cH n f g) c=bM n f c:=by unfold bM;rw[e];rfl
  rw[e2];exact aV
 ·have fR:=run_storeCells_at (P:=P) b n T (cQ m g) 0 (bM n f c) w aV (by rw[ZW f kD,gD];omega) hs.one;simp only[lM,gD]at fR;have b_:(nJ #[t,tx] ty #[.slice (aa ⟨b,0,ag⟩) n c,xv]).run P w=.ok (.slice (aa ⟨b,0,ag⟩) (n+m) c) (w.setRow b ((bM n f c).toList.take n++cQ m g++(bM n f c).toList.drop (n+m)).toArray):=by
   rcases iJ.kind with⟨e',hk⟩|hk<;>simp[nJ,dF ht,dF hk,qp,typeInfo,cE,iJ.len,mE,hs.cells,iY,dr,fR,ju]
  refine⟨_,b_,Ch.setRow w b _,?_⟩;have:=setRow_heap w b (bM n f c) ((bM n f c).toList.take n++cQ m g++(bM n f c).toList.drop (n+m)).toArray T (0,0) aV;rw[this];congr 2;unfold bM;congr 1;show(cQ n f++_).take n++_++(cQ n f++_).drop (n+m)=_;rw[List.take_left' (gD n f),<-List.drop_drop,List.drop_left' (gD n f),List.drop_replicate,<-Ly];congr 2;omega
section
variable{P:aL}{ops:Array aA}{rest:List aA}{o:aA}{a:Act}{w w0:an}{ms:List Nat}{Q:dR->Act->an->Prop}
def afg{R:List av}{T b n c m:Nat}{f g:Nat->Int}{t tx:aP}{s x:bA}{xv:aj}(S:St ms w0 (⟨b,af,.cells (bM n f c) T (0,0)⟩::R) w)(hs:Src P 1 tx xv m (cQ m g) w)(mE:n+m<=c)
 (k:∀w',St ms w0 (⟨b,af,.cells (bM (n+m) (cH n f g) c) T (0,0)⟩::R) w'->WL P ops Q rest (a.put o.dst (.slice (aa ⟨b,0,ag⟩) (n+m) c)) w')
 (ho:o.op=.call ⟨.builtin .append,#[s,x],#[t,tx]⟩:=by rfl) (hw:gU o (yielded ops a.tmps)=af:=by kernel_rfl) (xE:a.eval s=.slice (aa ⟨b,0,ag⟩) n c:=by kernel_rfl) (uL:a.eval x=xv:=by kernel_rfl)
 (ht:P.underlying t=aa (.slice T):=by kernel_rfl) (cE:(P.info? T).map (λi=>(i.zero.map (·.cells),i.size,i.bytes))=aa (aa #[.int .u8 0],1,1):=by kernel_rfl):WL P ops Q (o::rest) a w:=
 WL.want hw λK hK=>by
  obtain⟨w',b_,hc,vB⟩:=avc (P:=P) (ty:=o.type) (S.at_ 0 _ rfl) mE hs ht cE;have S2:=S.step (i:=0) rfl rfl hc vB;unfold rz;rw[jU ho xE uL b_];exact hK _ _ (k w' S2)
end
end Sx
namespace Go.Proofs.YtddcipamdggcnaaGreatDoor
def avd{P:aL}{w:an}{t el:aP}{n:Nat}{inf:TypeInfo}{k1 k2:gw}(hu:P.underlying t=aa (.slice el))(hi:P.info? el=aa inf)(hz:eI P el=aa (0+1))(h0:lX P el=aa [.int .u8 0])(hn:n<=1000000)(hb:inf.bytes<=100):
 (La t (.int k1 ((0:Nat):Int)) (.int k2 (n:Int))).run P w=.ok (.slice (aa ⟨w.heap.size,0,ag⟩) 0 n) (w.alloc (.cells (bM 0 (λ_=>0) n) el)):=by
 rcases uu n with rfl|h1
 ·have e1:(decide ((((0:Nat):Int))<0)||decide ((inf.bytes:Int)*((0:Nat):Int)>2^48))=ah:=sP;have e2:¬(0*inf.bytes>roomBytes):=sP;simp only[La,bH,dF hu,cD,asInt,asIntOf,de,He hi,MB (oG 1000000),e1,Bool.false_or,askRoom,if_neg e2,tf,gy hz];simp only[show decide (((0:Nat):Int)<0)=ah by simp,show decide (((0:Nat):Int)>((0:Nat):Int))=ah by simp,Bool.or_self,Bool.false_eq_true,if_false,bH,de,cD,gy hz];rw[if_pos trivial];simp only[bH,de,cD,show Array.range (0*(0+1))=#[]from rfl,Array.map_empty];rfl
 ·exact abG (ae:=[]) hu hi hz h0 h1 hn hb
def A_:aQ->Nat×az:=λ_=>(0,λ_=>0)
def ave(b N c:Nat)(f:Nat->Int)(hf:By f)(hN:N<=c)(hb:N<=1000000)(w:an)(aV:w.heap[b]?=aa (.cells (bM N f c) 5 (0,0))):
 ba du 75 #[.slice (aa ⟨b,0,ag⟩) N c] w λv w'=>∃(L:List (Int×lh))(bs:List dD)(n:Nat)(g:az)(x:Option aF)(cc:Nat)(bk:List av),v=.tuple #[.slice x L.length cc,.int .i64 (n:Int)]/\dk 2 140 (L.flatMap rp) x L.length cc bk/\
  lL L bs (Sd.iW cn N N f).1/\n=(Sd.iW cn N N f).2.1/\n<=N/\L.length<=N/\(∀j,j<n->(Sd.iW cn N N f).2.2 j=f (N-n+j))/\St [] w (bk++lA bs) w':=by
 let us:List aj:=oE (c-N) (.int .u8 0)
 have S:St [] w (lits [b] [b] [ky N f us]++ax ([.row O4]:List (LG A_)) []) w:=by
  refine St.Xa ?_;intro y hy;simp only[lits,ax,cy,cG,py,or_false,fe,fu]at hy;rcases hy with rfl|hy
  ·refine⟨rfl,aV.trans ?_⟩;simp only[aI,ky,ao,cl,fu,cy];rfl
  ·exact(py hy).elim
 let X:VK (LG A_):=λv bl ch=>bl=[ky N f us]/\∃(L:List (Int×lh))(bs:List dD)(n:Nat)(g:az)(x:Option aF)(cc:Nat)(bk:List av)(h:dk 2 140 (L.flatMap rp) x L.length cc bk),
  v=.aD [.raw (.slice x L.length cc),.int .i64 (n:Int)]/\ch=.row ⟨140,2,L.flatMap rp,x,L.length,cc,bk,h⟩::rq bs/\lL L bs (Sd.iW cn N N f).1/\n=(Sd.iW cn N N f).2.1/\n<=N/\L.length<=N/\(∀j,j<n->(Sd.iW cn N N f).2.2 j=f (N-n+j))
 have cT:O2 (A8 du cU (J0 A_) (λi _=>ja 0 (Xl N f us) i)) 60 75 [.sl 0 0 N c] [ky N f us] [.row O4] (bG 1 X):=by
  rw[au9];exact avb hf hN hb λL bs n g x cc bk h h1 h2 h3 h4 h5=>⟨rfl,L,bs,n,g,x,cc,bk,h,rfl,rfl,h1,h2,h3,h4,h5⟩
 have hok:aK (G:=LG A_) du cU (J0 A_):=au8;refine(au7 (C:=A8 du cU (J0 A_) (λi _=>ja 0 (Xl N f us) i)) (afd hok) (afe hok) 60 (ae:=[b]) (λg i h=>by cases h) rfl S cT).mono ?_;rintro v w' ⟨y,aq,b9,ce,rfl,g1,g2,hK⟩;obtain⟨v2,cj,ci,uh,cK,S2,rfl,L,bs,n,g,x,cc,bk,h,rfl,rfl,h1,h2,h3,h4,h5⟩:=ig (n0:=1) g1 sP g2 hK;refine⟨L,bs,n,g,x,cc,bk,?_,h,h1,h2,h3,h4,h5,?_⟩
 ·rw[uh];simp only[den,aJ]
 ·have eb:∀(bs:List dD),ax (rq (fr:=A_) bs) []=lA bs:=by
   intro bs;induction bs with
   |nil=>rfl
   |cons b l ih=>show b.B++ax (rq l) []=b.B++lA l;rw[ih]
  have e:ax (LG.row (fr:=A_) ⟨140,2,L.flatMap rp,x,L.length,cc,bk,h⟩::rq bs) []=bk++lA bs:=by
   show bk++ax (rq bs) []=_;rw[eb]
  rw[e]at S2;exact S2.sub (kM _ _)
end Go.Proofs.YtddcipamdggcnaaGreatDoor
namespace Go.Proofs.YtddcipamdggcnaaGreatDoor
section
def avf{n:Nat}{f g:Nat->Int}(hf:By f)(hg:By g):By (cH n f g):=by
 intro j;unfold cH;cases dq j n with
 |true=>exact hf j
 |false=>exact hg _
def afh(n:Nat)(f g:Nat->Int):cH n f g=Sd.o9 n f g:=by
 funext j;unfold cH Sd.o9;by_cases h:j<n
 ·rw[G7 h,if_pos h];rfl
 ·rw[QM h,if_neg h];rfl
def dD.wr(b:dD):∀y∈b.B,y.wr=af:=by
 intro y hy;rcases b.h.2 with⟨_,_,_,e⟩|⟨_,_,e⟩<;>rw[e]at hy<;>simp at hy;subst hy;rfl
def afi:∀(l:List dD),∀y∈lA l,y.wr=af
 |[],_,hy=>by simp[lA]at hy
 |b::l,y,hy=>by
  rcases dV.1 hy with hy|hy
  ·exact b.wr y hy
  ·exact afi l y hy
def dD.key(b:dD){w:an}(hn:b.n<=1000000)(aV:∀y∈b.B,w.heap[y.id]?=aa y.obj):ei w b.x b.n b.c b.f:=by
 refine⟨hn,b.h.1,?_,?_⟩
 ·intro e;rcases b.h.2 with⟨_,h2,h3,_⟩|⟨bb,h2,_⟩
  ·exact⟨h2,h3⟩
  ·rw[e]at h2;cases h2
 ·intro x e j hj;rcases b.h.2 with⟨h1,_⟩|⟨bb,h2,h3⟩
  ·rw[e]at h1;cases h1
  ·rw[e]at h2;obtain rfl:=cP h2;have:=aV _ (by rw[h3];exact jS.2 rfl);rw[iY,cell_of this,d_];simp only[bM,j7];rw[gB (by rw[gD];exact hj),rO _ hj]
def avg{ρ:bA->aj}{o:aA}{l c:bA}{n:Nat}{w:an}(hn:n<=1000000)(ho:o.op=.makeSlice 23 l c:=by rfl)(hl:ρ l=.int .i64 ((0:Nat):Int):=by kernel_rfl)(hc:ρ c=.int .i64 ((n:Nat):Int):=by kernel_rfl):
 (execOp ρ o).run du w=.ok (.value (.slice (aa ⟨w.heap.size,0,ag⟩) 0 n)) (w.alloc (.cells (bM 0 (λ_=>0) n) 5)):=by
 have hmk:=avd (P:=du) (w:=w) (t:=23) (el:=5) (n:=n) (k1:=.i64) (k2:=.i64) (inf:=_) kR rfl kR kR hn dC;unfold execOp;rw[ho];simp only[hl,hc];rw[bH,hmk];rfl
section
variable{sb:Nat}{rr:dD}{xb:Option aF}{nb cb:Nat}{fb:Nat->Int}{E R:List av}{ms:List Nat}{w0 w:an}
def avh(hE:∀w:an,(∀y∈E,w.heap[y.id]?=aa y.obj)->ei w xb nb cb fb)(HK:By rr.f)(hfb:By fb)(dr:rr.n+nb<=1000000)
 (S:St ms w0 (⟨sb,af,.cells #[.slice rr.x rr.n rr.c] 133 (0,0)⟩::(rr.B++(E++R))) w):
 ba du 54 #[.pointer (aa ⟨sb,0,ag⟩),.slice xb nb cb] w λv w'=>∃(L:List (Int×lh))(bs:List dD)(x:Option aF)(cc:Nat)(bk:List av)(r':dD),v=.slice x L.length cc/\dk 2 140 (L.flatMap rp) x L.length cc bk/\
  lL L bs (Sd.sU cn (rr.n,rr.f) nb fb).1/\r'.n=(Sd.sU cn (rr.n,rr.f) nb fb).2.1/\r'.n<=rr.n+nb/\(∀j,j<r'.n->(Sd.sU cn (rr.n,rr.f) nb fb).2.2 j=r'.f j)/\By r'.f/\L.length<=rr.n+nb/\
  St ms w0 (⟨sb,af,.cells #[.slice r'.x r'.n r'.c] 133 (0,0)⟩::(r'.B++((bk++lA bs)++(E++R)))) w':=by
 refine jT Tryz.func54 rfl ?_;refine aW (bu ?_);refine gC ?_;refine bh (aZ (aW (bu ?_)));refine dI ?_;refine aG (.pointer (aa ⟨sb,0,ag⟩)) ?_;refine aG (.pointer (aa ⟨sb,0,ag⟩)) ?_;refine rH S 0 (.slice rr.x rr.n rr.c) sb 0 ?_;refine aG (.int .i64 ((rr.n:Nat):Int)) ?_;refine dI ?_;refine aG (.int .i64 ((nb:Nat):Int)) ?_;refine pz (.int .i64 (i64.wrap (((rr.n:Nat):Int)+((nb:Nat):Int)))) (.int .i64 ((rr.n+nb:Nat):Int)) (by rw[lg oM];rfl) ?_;refine fQ S (λb=>.slice (aa ⟨b,0,ag⟩) 0 (rr.n+nb)) (.cells (bM 0 (λ_=>0) (rr.n+nb)) 5) ?_ kR ?_
 ·intro ab w1 S1;refine gC ?_;refine bh (aZ (aW (bu ?_)));refine dI ?_;refine dI ?_;refine aG (.pointer (aa ⟨sb,0,ag⟩)) ?_;refine aG (.pointer (aa ⟨sb,0,ag⟩)) ?_;refine rH S1 1 (.slice rr.x rr.n rr.c) sb 0 ?_;refine afg (n:=0) (c:=rr.n+nb) (f:=λ_=>0) (g:=rr.f) (xv:=.slice rr.x rr.n rr.c) S1 (Ed (e':=5) (rr.key oM (λy hy=>S1.at' (by simp[hy])))) oM ?_;intro w2 S2;refine gC ?_;refine bh (aZ (aW (bu ?_)));refine dI ?_;refine dI ?_;refine afg (n:=0+rr.n) (c:=rr.n+nb) (f:=cH 0 (λ_=>0) rr.f) (g:=fb) (xv:=.slice xb nb cb) S2 (Ed (e':=5) (hE _ (λy hy=>S2.at' (by simp[hy])))) oM ?_;intro w3 S3;refine gC ?_;refine bh (aZ (aW (bu ?_)));refine dI ?_;have eN:0+rr.n+nb=rr.n+nb:=oM;have eF:cH (0+rr.n) (cH 0 (λ_=>0) rr.f) fb=Sd.o9 rr.n rr.f fb:=by rw[d_,yq 0,afh]
  have kC:By (Sd.o9 rr.n rr.f fb):=by rw[<-afh];exact avf HK hfb
  have afj:=S3.at_ 0 _ rfl;simp only[eN,eF]at afj;refine gH 75 #[.slice (aa ⟨ab,0,ag⟩) (0+rr.n+nb) (rr.n+nb)] ?_;rw[eN];refine(ave ab (rr.n+nb) (rr.n+nb) (Sd.o9 rr.n rr.f fb) kC (cW _) dr w3 afj).mono ?_;rintro _ w4 ⟨L,bs,n,g,x,cc,bk,rfl,ji,h1,h2,h3,h4,h5,S4⟩;have hwr:∀y∈bk++lA bs,y.wr=af:=λy hy=>by
   rcases dV.1 hy with hy|hy
   ·exact ji.wr y hy
   ·exact afi bs y hy
  have S5:=St.join S3 S4 hwr;generalize hN:rr.n+nb=N at*;refine dI ?_;refine aG (.slice x L.length cc) ?_;refine aG (.int .i64 (n:Int)) ?_;refine gC ?_;refine gC ?_;refine bh (aZ (aW (bu ?_)));refine dI ?_;refine dI ?_;refine dI ?_;refine aG (.int .i64 ((N:Nat):Int)) ?_;refine dI ?_;refine pz (.int .i64 (i64.wrap (((N:Nat):Int)-((n:Nat):Int)))) (.int .i64 ((N-n:Nat):Int)) (by rw[lg oM];congr 1;omega) ?_;have hnn:N-(N-n)=n:=oM;refine pz (.slice (aa ⟨ab,(if N=N-n then 0 else 0+(N-n)),ag⟩) (N-(N-n)) (N-(N-n))) (.slice (aa ⟨ab,(if N=N-n then 0 else 0+(N-n)),ag⟩) n n) (by rw[hnn]) ?_ kR (ZV (kd:=.i64) (e:=5) (k:=N-n) (n:=N) (c:=N) oM (cW _) _ rfl);have S6:St ms w0 ([⟨sb,af,.cells #[.slice rr.x rr.n rr.c] 133 (0,0)⟩]++([]++((bk++lA bs)++(E++R)))) w4:=by
   have p:((bk++lA bs)++(⟨ab,af,.cells (bM (0+rr.n+nb) (cH (0+rr.n) (cH 0 (λ_=>0) rr.f) fb) N) 5 (0,0)⟩::⟨sb,af,.cells #[.slice rr.x rr.n rr.c] 133 (0,0)⟩::(rr.B++(E++R)))).Perm
    ((⟨ab,af,.cells (bM (0+rr.n+nb) (cH (0+rr.n) (cH 0 (λ_=>0) rr.f) fb) N) 5 (0,0)⟩::rr.B)++(⟨sb,af,.cells #[.slice rr.x rr.n rr.c] 133 (0,0)⟩::((bk++lA bs)++(E++R)))):=
    dW λf=>by simp only[ee,j9];omega
   have:=(S5.perm p).sub (kM _ _);exact this
  have O6:w4.heap[ab]?=aa (.cells (bM N (Sd.o9 rr.n rr.f fb) N) 5 (0,0)):=by
   have:=S5.at' (x:=⟨ab,af,.cells (bM (0+rr.n+nb) (cH (0+rr.n) (cH 0 (λ_=>0) rr.f) fb) N) 5 (0,0)⟩) sP;rw[show 0+rr.n+nb=N by omega,eF]at this;exact this
  have h8:cJ w4 ab (if N=N-n then 0 else 0+(N-n)) n (λj=>Sd.o9 rr.n rr.f fb (N-n+j)):=by
   intro j hj;rw[if_neg oM,cell_of O6];simp only[bM,j7];rw[gB (by rw[gD];omega),d_,rO _ oM]
  have hs8:=BQ (P:=du) (e':=5) (tx:=23) (c:=n) h8;refine QW (n:=0) (c:=0) (f:=λ_=>0) (g:=λj=>Sd.o9 rr.n rr.f fb (N-n+j)) (m:=n) (xs:=ag) (T:=5) (xv:=.slice (aa ⟨ab,(if N=N-n then 0 else 0+(N-n)),ag⟩) n n) S6 ⟨cW _,.inl ⟨rfl,rfl,rfl,rfl⟩⟩ hs8 oM ?_;intro xr cr Br w5 hr5 S7;refine aG (.pointer (aa ⟨sb,0,ag⟩)) ?_;refine aG (.pointer (aa ⟨sb,0,ag⟩)) ?_;refine store_ S7 0 (.slice xr (0+n) cr) sb 0 ?_;intro w6 S8;refine bh (aZ (aW (bu ?_)));refine dI ?_;refine gC ?_;refine bh (aZ (jC ?_));refine jD rfl (iI [.tmp 4] [.slice x L.length cc] (.slice x L.length cc) ⟨kN,trivial⟩) ?_
  let r':dD:=⟨0+n,cH 0 (λ_=>0) (λj=>Sd.o9 rr.n rr.f fb (N-n+j)),xr,cr,Br,hr5⟩
  have xH:cH 0 (λ_=>0) (λj=>Sd.o9 rr.n rr.f fb (N-n+j))=λj=>Sd.o9 rr.n rr.f fb (N-n+j):=yq 0 _ _;have et:Sd.sU cn (rr.n,rr.f) nb fb=Sd.iW cn N N (Sd.o9 rr.n rr.f fb):=by unfold Sd.sU;simp only[hN]
  rw[et];refine⟨L,bs,x,cc,bk,r',rfl,ji,h1,?_,?_,?_,?_,h4,?_⟩
  ·show 0+n=_;rw[d_];exact h2
  ·show 0+n<=N;omega
  ·intro j hj;have hj:j<0+n:=hj;show _=cH 0 (λ_=>0) (λj=>Sd.o9 rr.n rr.f fb (N-n+j)) j;rw[xH];exact h5 j oM
  ·show By (cH 0 (λ_=>0) (λj=>Sd.o9 rr.n rr.f fb (N-n+j)));rw[xH];exact λj=>kC _
  ·exact S8.conv kR
 ·exact avg dr
end
variable{fr:aQ->Nat×az}
def avi{k:LK}{s:Sd.ai}(F:bx fr (bd k s))(h:Du k)(b:dD):∃F1:bx fr (bd (FU k b.x b.n b.c b.f) s),F1.vs=F.vs/\F1.vr=F.vr/\F1.B=F.B++b.B:=by
 refine⟨⟨F.xs,F.cs,F.xr,F.cr,F.Bq,F.Br,F.Bs,F.Bf,F.Bk++b.B,F.so,F.hq,F.hr,F.hs,F.hf,?_⟩,rfl,rfl,?_⟩
 ·obtain⟨b0,b1,b2,b3,b4,hB,h0,h1,h2,h3,h4⟩:=F.hk;have e4:b4=[]:=by
   rcases h4.2 with⟨_,_,_,e⟩|⟨y,e,_⟩
   ·exact e
   ·have:k.px=aa ⟨y,0,ag⟩:=e;rw[h.1]at this;cases this
  subst e4;exact⟨b0,b1,b2,b3,b.B,by rw[hB];simp,h0,h1,h2,h3,b.h⟩
 ·simp only[bx.B,bZ]
def avj{k:LK}{s:Sd.ai}(h:Du k)(b:dD)(F1:bx fr (bd (FU k b.x b.n b.c b.f) s)):∃F:bx fr (bd k s),F.vs=F1.vs/\F.vr=F1.vr/\F1.B=F.B++b.B:=by
 obtain⟨b0,b1,b2,b3,b4,hB,h0,h1,h2,h3,h4⟩:=F1.hk;have e4:b4=b.B:=by
  rcases h4.2 with⟨e,_,_,e1⟩|⟨y,e,e2⟩
  ·have e:b.x=ag:=e;rcases b.h.2 with⟨_,_,_,e3⟩|⟨z,e3,_⟩
   ·rw[e1,e3]
   ·rw[e]at e3;cases e3
  ·have e:b.x=aa ⟨y,0,ag⟩:=e;rcases b.h.2 with⟨e3,_⟩|⟨z,e3,e4⟩
   ·rw[e]at e3;cases e3
   ·rw[e]at e3;obtain rfl:y=z:=by simpa using e3
    rw[e2,e4];rfl
 subst e4;refine⟨⟨F1.xs,F1.cs,F1.xr,F1.cr,F1.Bq,F1.Br,F1.Bs,F1.Bf,b0++(b1++(b2++(b3++[]))),F1.so,F1.hq,F1.hr,F1.hs,F1.hf,⟨b0,b1,b2,b3,[],rfl,h0,h1,h2,h3,by show k.pn<=k.pc;rw[h.2.1,h.2.2];exact cW _,.inl ⟨h.1,h.2.1,h.2.2,rfl⟩⟩⟩,rfl,rfl,?_⟩;simp only[bx.B,hB,bZ,cy]
def avk{bs:List dD}{b:dD}(h:b∈bs):∃Q,(lA bs).Perm (b.B++Q):=by
 induction bs with
 |nil=>cases h
 |cons a l ih=>
  rcases cG.1 h with rfl|h
  ·exact⟨lA l,zM _⟩
  ·obtain⟨Q,hQ⟩:=ih h;refine⟨a.B++Q,?_⟩;show(a.B++lA l).Perm _;exact(j8 _ hQ).trans (dW λf=>by simp only[ee];omega)
def afk{rest:List (LG fr)}{g:LG fr}(h:g∈rest)(R:List av):∃Q,(ax rest R).Perm (Bl.B g++Q):=by
 induction rest with
 |nil=>cases h
 |cons a l ih=>
  rcases cG.1 h with rfl|h
  ·exact⟨ax l R,zM _⟩
  ·obtain⟨Q,hQ⟩:=ih h;refine⟨Bl.B a++Q,?_⟩;exact(j8 _ hQ).trans (dW λf=>by simp only[ee];omega)
def Xn(C:aM):dm (LG fr):=λak bl ch K=>match ak,ch with
 |[.ptr ic 0,.int .i64 l,.agg [.int .i64 code,.raw v]],.br u::.core g fB::rest=>(match bl[ic]?with
  |some ⟨af,⟨131,(0,0)⟩,cc⟩=>(match CT cc with
   |some x=>(match bl[x.it]?with
    |some ⟨af,⟨181,(0,0)⟩,tc⟩=>(match tZ tc with
     |some y=>cond (bY bl.length bl&&(dq 1 ic&&(dq 1 x.it&&!(aC ic x.it))))
      ((bl[0]?=aa (cx g.d.k)/\bl[1]?=aa (g_ g.d.k)/\x=nr g.d.k x.it (gG x y g.d g.dx g.sx)/\y.b=x.p.da/\y.m=x.p.jk/\x.p.queue=g.d.k.most)/\
        Du g.d.k/\∃b:dD,(v=b.v/\(b.B=[]\/∃bs,LG.ou bs∈rest/\b∈bs)/\ft g.d.k (gG x y g.d g.dx g.sx)/\cC=g.F.vs/\cC=g.F.vr/\b.n<=58/\By b.f)/\
        Ds g.d.k (zk C (gG x y g.d g.dx g.sx) l code b.n b.f) λvv s' F' fn ex=>K (iV bl.length vv) (jq bl ic x.it g.d.k s'++ex) (.br u::.core (bj g.d.k s' F') (fn++fB)::rest)) False
     |none=>False)
    |_=>False)
   |none=>False)
  |_=>False)
 |_,_=>False
def avl(ht:Body (fr:=fr) 124 dE):Sound du gS 55 (Xn (fr:=fr) (aO aU)):=by
 intro ak ae bl ch R ms w0 w K hg hl S hc;unfold Xn at hc;split at hc
 ·rename_i ic l code v u g fB rest;split at hc
  ·rename_i cc vY;split at hc
   ·rename_i x hx;split at hc
    ·rename_i tc t_;split at hc
     ·rename_i y hy;cases hq:bY bl.length bl&&(dq 1 ic&&(dq 1 x.it&&!(aC ic x.it)))with
      |false=>rw[hq]at hc;exact hc.elim
      |true=>
       rw[hq]at hc;simp only[bJ,pj,jQ]at hq;obtain⟨qw,q2,q3,q4⟩:=hq;have n4:ic≠x.it:=λe=>by rw[e,uv]at q4;cases q4
       obtain⟨⟨e3,e4,e5,e6,e7,e8⟩,O7,b,⟨rfl,hbm,hC,v1,v2,p1,p2⟩,hT⟩:=hc;obtain rfl:=I2 hx;obtain rfl:=yO hy;have H:JM bl ic x.it g.d.k (gG x y g.d g.dx g.sx):=by
        refine⟨e3,e4,?_,?_⟩
        ·rw[vY];congr 1;unfold fM;rw[<-e5]
        ·rw[t_];congr 1;unfold fA;have:y=wA (gG x y g.d g.dx g.sx):=by
          obtain⟨y1,y2,y3,y4,y5,y6,y7,y8⟩:=y;simp only at e6 e7;subst e6 e7;rfl
         rw[<-this]
       have l2:=mj H.hc;have l3:=mj H.ht;obtain⟨Q,hQ⟩:∃Q,(ax rest R).Perm (b.B++Q):=by
        rcases hbm with e|⟨bs,h1,h2⟩
        ·exact⟨ax rest R,by rw[e];exact zM _⟩
        ·obtain⟨Q1,J1⟩:=afk h1 R;obtain⟨Q2,J2⟩:=avk h2;refine⟨Q2++Q1,J1.trans ?_⟩;rw[<-bZ];exact BA _ J2
       obtain⟨r,hr,hp⟩:=Fo (bl:=bl) (ae:=ae) hl (is:=[0,1,ic,x.it]) (by simp;omega) (by
        intro i hi;simp only[cG,py,or_false]at hi;rcases hi with rfl|rfl|rfl|rfl<;>omega)
       have kJ:=hp bl rfl;rw[OS H hg]at kJ;obtain⟨F1,f1,f2,f3⟩:=avi (k:=g.d.k) (s:=gG x y g.d g.dx g.sx) g.F O7 b;have S1:=S.perm (bs':=lits (dc (ae.getD ic 0) (ae.getD x.it 0)) (dc (ae.getD ic 0) (ae.getD x.it 0)) (dG g.d.k (gG x y g.d g.dx g.sx))++(F1.B++(cA u++((r.map λj=>aI ae (ae.getD j 0) (bl.getD j fp))++(fB++Q))))) (by
        refine(kJ.append_right _).trans ?_;rw[show F1.B=bx.B (d:=g.d) g.F++b.B from f3];show(_++(cA u++((g.F.B++fB)++ax rest R))).Perm _;exact dW λf=>by have:=hQ.countP_eq f;simp only[ee]at this⊢;omega)
       have hC':ft (FU g.d.k b.x b.n b.c b.f) (gG x y g.d g.dx g.sx):=⟨hC.i,hC.x,hC.key,hC.ke,hC.e1,hC.e2⟩;have ve:=auJ ht u [.int .i64 l,.agg [.int .i64 code,.raw (fq (FU g.d.k b.x b.n b.c b.f))]] (FU g.d.k b.x b.n b.c b.f) (gG x y g.d g.dx g.sx) F1
        (λvv s' O8 fn ex=>cC=O8.vs/\cC=O8.vr/\∀F':bx fr (bd g.d.k s'),cC=F'.vs->cC=F'.vr->K (iV bl.length vv) (jq bl ic x.it g.d.k s'++ex) (.br u::.core (bj g.d.k s' F') (fn++fB)::rest))
        _ _ _ ms w0 w rfl e8 ⟨⟨hC',by rw[f1];exact v1,by rw[f2];exact v2,rfl,p1,p2⟩,λs2 e2 tr fn F0 w1 w2 hf=>⟨w1,w2,λF' z1 z2=>hT s2 e2 tr fn F' z1 z2 hf⟩⟩ S1
       have cN:aJ ae [.ptr ic 0,.int .i64 l,.agg [.int .i64 code,.raw b.v]]=aJ (dc (ae.getD ic 0) (ae.getD x.it 0)) (.ptr 2 0::[.int .i64 l,.agg [.int .i64 code,.raw (fq (FU g.d.k b.x b.n b.c b.f))]]):=rfl;rw[cN];refine ve.mono ?_;rintro v w' ⟨vv,s',O8,fn,ex,xs,fV,JO,vt,⟨w1,w2,hK⟩,S2⟩;obtain⟨F',g1,g2,g3⟩:=avj O7 b O8;refine⟨iV bl.length vv,xs,jq bl ic x.it g.d.k s'++ex,.br u::.core (bj g.d.k s' F') (fn++fB)::rest,?_,?_,?_,hK F' (by rw[g1];exact w1) (by rw[g2];exact w2)⟩
       ·rw[<-hl,Dp];exact JO.symm
       ·simp[jq,hl,fV]
       ·have H':=aeY H q2 q3 n4 s';have vf:=hp (jq bl ic x.it g.d.k s') (by simp[jq]);rw[OS H' hg]at vf;have I3:(r.map λj=>aI ae (ae.getD j 0) ((jq bl ic x.it g.d.k s').getD j fp))=r.map λj=>aI ae (ae.getD j 0) (bl.getD j fp):=by
         unfold jq;refine aeZ ?_;intro j hj;have:=hr j hj;simp only[cG,py,or_false,not_or]at this;omega
        rw[I3]at vf;have cK:ae.length=(jq bl ic x.it g.d.k s').length:=by simp[jq,hl]
        have JQ:bY ae.length (jq bl ic x.it g.d.k s')=af:=by
         unfold jq;rw[<-hl]at qw l3;refine JN ?_ _ _ (JN ?_ _ _ qw)
         ·exact xW (oG _) _ (yQ s')
         ·simp only[fM,CS,nr,bF,dg,bJ,jQ,Bool.true_and,Bool.and_true];exact l3
        rw[fw _ _ _ _ cK,fy _ _ JQ,Dq (ids':=xs) xs ex vt];rw[g3]at S2;have S3:St ms w0 (lits (dc (ae.getD ic 0) (ae.getD x.it 0)) (dc (ae.getD ic 0) (ae.getD x.it 0)) (dG g.d.k s')++(lits xs xs ex++((F'.B++b.B)++(fn++(cA u++((r.map λj=>aI ae (ae.getD j 0) (bl.getD j fp))++(fB++Q))))))) w':=S2;refine S3.perm ?_;show lO _ ((lits ae ae (jq bl ic x.it g.d.k s')++lits xs xs ex)++(cA u++((F'.B++(fn++fB))++ax rest R)));refine xm ?_ ((vf.symm.append_right _).append_right _);exact dW λf=>by have:=hQ.countP_eq f;simp only[ee]at this⊢;omega
     ·exact hc.elim
    ·exact hc.elim
   ·exact hc.elim
  ·exact hc.elim
 ·exact hc.elim
def wQ(L:List (Int×lh))(j:Nat):List aj:=rp (L.getD j (0,⟨ag,0,0⟩))
def afl:∀(l:List (Int×lh)),(bg l.length).flatMap (wQ l)=l.flatMap rp
 |[]=>rfl
 |r::l=>by
  rw[jv,ta,List.flatMap_cons,List.flatMap_map];have e:(λj=>wQ (r::l) (Nat.succ j))=wQ l:=by funext j;rfl
  rw[e,afl l];rfl
def ew.Ba(s:ew)(i:Nat)(r:dD):av:=⟨s.a i,af,.cells #[.slice r.x r.n r.c] 133 (0,0)⟩
def ew.pick(s:ew){i:Nat}(hi:i<3):∃Q,s.B.Perm ((s.Ba i (s.r i)::(s.r i).B)++Q)/\∀r,(s.set i r).B.Perm ((s.Ba i r::r.B)++Q):=by
 match i,hi with
 |0,_=>
  exact⟨(s.jl 1::(s.r 1).B)++(s.jl 2::(s.r 2).B),zM _,λr=>zM _⟩
 |1,_=>
  refine⟨(s.jl 0::(s.r 0).B)++(s.jl 2::(s.r 2).B),?_,λr=>?_⟩
  ·show((s.jl 0::(s.r 0).B)++((s.jl 1::(s.r 1).B)++(s.jl 2::(s.r 2).B))).Perm ((s.jl 1::(s.r 1).B)++((s.jl 0::(s.r 0).B)++(s.jl 2::(s.r 2).B)));exact dW λf=>by simp only[ee];omega
  ·show((s.jl 0::(s.r 0).B)++((s.Ba 1 r::r.B)++(s.jl 2::(s.r 2).B))).Perm ((s.Ba 1 r::r.B)++((s.jl 0::(s.r 0).B)++(s.jl 2::(s.r 2).B)));exact dW λf=>by simp only[ee];omega
 |2,_=>
  refine⟨(s.jl 0::(s.r 0).B)++(s.jl 1::(s.r 1).B),?_,λr=>?_⟩
  ·show((s.jl 0::(s.r 0).B)++((s.jl 1::(s.r 1).B)++(s.jl 2::(s.r 2).B))).Perm ((s.jl 2::(s.r 2).B)++((s.jl 0::(s.r 0).B)++(s.jl 1::(s.r 1).B)));exact dW λf=>by simp only[ee];omega
  ·show((s.jl 0::(s.r 0).B)++((s.jl 1::(s.r 1).B)++(s.Ba 2 r::r.B))).Perm ((s.Ba 2 r::r.B)++((s.jl 0::(s.r 0).B)++(s.jl 1::(s.r 1).B)));exact dW λf=>by simp only[ee];omega
def lj(S:ew)(i:Nat)(eb:jy):List Sd.It×Sd.Rest:=Sd.sU cn ((S.r i).n,(S.r i).f) eb.n eb.f
def Xo:dm (LG fr):=λak bl ch K=>match ak,ch with
 |[.raw (.pointer (aa ⟨a,0,ag⟩)),.raw bv],g0::g1::g2::g3::.mu S::.rd eb::rest=>∃(i:Nat)(k:LK),(i<3/\a=S.a i/\bv=eb.v/\bl[0]?=aa (cx k)/\By (S.r i).f/\By eb.f/\(S.r i).n+eb.n<=1000000/\bY bl.length bl=af)/\
  ∀(L:List (Int×lh))(bs:List dD)(x:Option aF)(cc ty:Nat)(us:List aj)(r':dD),lL L bs (lj S i eb).1->r'.n=(lj S i eb).2.1->r'.n<=(S.r i).n+eb.n->(∀j,j<r'.n->(lj S i eb).2.2 j=r'.f j)->By r'.f->L.length<=(S.r i).n+eb.n->
   K (.dB bl.length 0 L.length cc x) (bl++[jf ty 2 L.length (wQ L) us]) (g0::g1::g2::g3::.mu (S.set i r')::.rd eb::.ou bs::rest)
 |_,_=>False
def avm:Sound du gS 54 (Xo (fr:=fr)):=by
 intro ak ae bl ch R ms w0 w K hg hl S hc;unfold Xo at hc;split at hc
 ·rename_i a bv g0 g1 g2 g3 G eb rest;obtain⟨i,k,⟨hi,rfl,rfl,lH,iM,fW,dr,EF⟩,hK⟩:=hc;obtain⟨Q,J1,J2⟩:=G.pick hi;have e0:∀(G:ew)(rest:List (LG fr)),(ax (g0::g1::g2::g3::.mu G::.rd eb::rest) R)=Bl.B g0++(Bl.B g1++(Bl.B g2++(Bl.B g3++(G.B++(eb.B++ax rest R))))):=λ_ _=>rfl;rw[e0]at S;have S1:St ms w0 (⟨G.a i,af,.cells #[.slice (G.r i).x (G.r i).n (G.r i).c] 133 (0,0)⟩::((G.r i).B++(eb.B++(Q++(lits ae ae bl++(Bl.B g0++(Bl.B g1++(Bl.B g2++(Bl.B g3++ax rest R))))))))) w:=by
   refine S.perm ?_;exact dW λf=>by have:=J1.countP_eq f;simp only[ee,j9,ew.Ba]at this⊢;omega
  refine(avh (λw hw=>eb.h w hw) iM fW dr S1).mono ?_;rintro v w' ⟨L,bs,x,cc,bk,r',rfl,ji,h1,h2,h3,h4,h5,h6,S2⟩;have hrt:(⟨0,ah,.cells (ao [] (cx k).c).toArray k.tg (0,0)⟩:av)∈lits ae ae bl:=by
   have h0:=(hg 0 0 rfl);have hm:aI ae (ae.getD 0 0) (cx k)∈lits ae ae bl:=by
    match ae,bl,lH,hl with
    |i0::is,b0::bs0,lH,hl=>
     have e:b0=cx k:=by simpa using lH
     rw[e];exact xk
    |[],b0::bs0,lH,hl=>cases hl
   rw[h0.2,jL (ids':=[]) (CU k)]at hm;exact hm
  have S3:St ms w0 (bk++(⟨G.a i,af,.cells #[.slice r'.x r'.n r'.c] 133 (0,0)⟩::(r'.B++(lA bs++(eb.B++(Q++(lits ae ae bl++(Bl.B g0++(Bl.B g1++(Bl.B g2++(Bl.B g3++ax rest R))))))))))) w':=by
   refine S2.perm ?_;exact dW λf=>by simp only[ee,j9];omega
  obtain⟨ib,ty,us,hv,S4⟩:=WY (k:=k) ji S3 (by simp[hrt]) (afl L).symm;refine⟨.dB bl.length 0 L.length cc x,[ib],_,_,?_,by simp[hl],?_,hK L bs x cc ty us r' h1 h2 h3 h4 h5 h6⟩
  ·rw[hv];simp only[den];rw[<-hl,lY]
  ·rw[e0,fw _ _ _ _ hl,fy _ _ (by rw[hl];exact EF)];have hb:lits (ae++[ib]) [ib] [jf ty 2 L.length (wQ L) us]=[⟨ib,ah,.cells ((bg L.length).flatMap (wQ L)++us).toArray ty (0,0)⟩]:=by
    simp only[lits,aI,FT];rfl
   rw[hb];refine S4.perm ?_;have e1:ax (.ou bs::rest) R=lA bs++ax rest R:=rfl;rw[e1];exact dW λf=>by have:=(J2 r').countP_eq f;simp only[ee,j9,lQ,ew.Ba]at this⊢;omega
 ·exact hc.elim
def FY:eZ->Option (eZ×eZ)
 |.rangeFunc _ _ a b=>aa (a,b)
 |.seq x y=>(match FY x with|some r=>aa r|none=>FY y)
 |.block _ c=>FY c
 |.cond _ x y=>(match FY x with|some r=>aa r|none=>FY y)
 |_=>ag
noncomputable def hY:eZ×eZ:=match du.funcs[13]?with
 |some fn=>(match fn.body with|some c=>(match FY c with|some r=>r|none=>(.skip,.skip))|none=>(.skip,.skip))
 |none=>(.skip,.skip)
def afm(P:aL)(fr:aQ->Nat×az):Ctx (LG fr):=A8 P gS [] (λ_ _=>ag)
def afn{P:aL}:aK (G:=LG fr) P gS []:=aK.nil
def wR(P:aL)(rf:eZ×eZ)(L:List (bT (LG fr)))(lp:Nat->List V->Option (Lp (LG fr))):Ctx (LG fr):=⟨P,qM L,gS,tO L,JY P,Xi,lp,yC (afm P fr) 60 42 5 22 rf.1 rf.2,ai3 (C:=afm P fr) (afd afn) (afe afn) 60 42 5 22 rf.1 rf.2⟩
def zo(fr:aQ->Nat×az)(C:aM):List (bT (LG fr)):=[⟨54,ah,Xo⟩,⟨55,ah,Xn C⟩,⟨56,ah,zi λ_=>W3 C⟩,⟨57,ah,zi λ_=>W0 C⟩,⟨58,ah,zi λ_=>WZ C⟩]
def avn(ht:Body (fr:=fr) 124 dE):aK du gS (zo fr (aO aU)):=
 aK.cons ⟨avm,λe=>by cases e⟩ (aK.cons ⟨avl ht,λe=>by cases e⟩ (aK.cons (OT (auI ht)) (aK.cons (OT (auH ht)) (aK.cons (OT (auG ht)) aK.nil))))
def zq(s:Sd.ai)(vs vr:V):List V:=[.int .i64 s.c.mode,.int .i64 s.c.pt.cls,.int .i64 s.c.pt.now.a,.int .i64 s.c.pt.now.b,.int .i64 s.c.pt.now.c,.int .i64 s.c.pt.now.d,.int .i64 s.c.gW.na,.int .i64 s.c.gW.source,.int .i64 s.c.gW.seq,
 .int .i64 s.c.pt.ct.na,.int .i64 s.c.pt.ct.source,.int .i64 s.c.pt.ct.seq,vs,vr,.cu .u8 32 s.c.head]
structure ij where
 oS:List aj
 xS:Option aF
 nS:Nat
 cS:Nat
 bS:List av
 hS:dk 2 61 oS xS nS cS bS
 oR:List aj
 xR:Option aF
 nR:Nat
 cR:Nat
 bR:List av
 hR:dk 6 64 oR xR nR cR bR
structure YA where
 fn:Nat
 l:Nat
 d:Nat
 a:Nat
 tm:Array aj
def nD(r:ij):LG fr:=.row ⟨61,2,r.oS,r.xS,r.nS,r.cS,r.bS,r.hS⟩
def nE(r:ij):LG fr:=.row ⟨64,6,r.oR,r.xR,r.nR,r.cR,r.bR,r.hR⟩
def o_(y:YA)(s:Sd.ai)(r:ij):LG fr:=.yl ⟨y.l,y.d,y.a,y.fn,y.tm,22,hY.1,hY.2,48,zq s (.raw (.slice r.xS r.nS r.cS)) (.raw (.slice r.xR r.nR r.cR))⟩
def dH(kd src:Int)(v:aj)(sm:fK)(bad:Bool):List V:=[.int .i64 kd,.int .i64 src,.raw v,.bool sm.valid,.int .i64 sm.x.a,.int .i64 sm.x.b,.int .i64 sm.x.c,.int .i64 sm.x.d,.bool sm.qG,.bool bad]
def iX(k:LK)(s:Sd.ai)(G:ew)(ev:List V):List VB:=[cx k,g_ k,fM k 3 s,fA s,wP 2 G,⟨af,⟨38,(0,0)⟩,ev⟩,⟨af,⟨33,(0,0)⟩,[.ptr 4 0]⟩]
def nF(u:an)(k:LK)(s:Sd.ai)(F:bx fr (bd k s))(fB:List av)(r:ij)(G:ew)(eb:jy)(y:YA):List (LG fr):=[.br u,.core (bj k s F) fB,nD r,nE r,.mu G,.rd eb,o_ y s r]
def yX(y:YA)(rw:ij)(s':Sd.ai)(r:TR)(X:ij->Prop):Prop:=
 (y.l=y.l/\22=22/\hY.1=hY.1/\hY.2=hY.2/\y.tm.size=42/\y.tm.getD 5 undef=.pointer (aa ⟨y.a,0,ag⟩))/\
 (s'.bE.length=s'.bE.length/\(∀j,(lK s'.bE r.fv j).length=2)/\∀j u,u∈lK s'.bE r.fv j->u.oneCell'=af)/\
 (V.raw (.slice rw.xS rw.nS rw.cS)=V.raw (.slice rw.xS rw.nS rw.cS)/\rw.nS+s'.bE.length<=1000000)/\
 ∀(x:Option aF)(c:Nat)(bk:List av)(h:dk 2 61 (rw.oS++(bg s'.bE.length).flatMap (lK s'.bE r.fv)) x (rw.nS+s'.bE.length) c bk),
 (s'.aY.length=s'.aY.length/\(∀j,(fZ s'.aY j).length=6)/\∀j u,u∈fZ s'.aY j->u.oneCell'=af)/\
 (V.raw (.slice rw.xR rw.nR rw.cR)=V.raw (.slice rw.xR rw.nR rw.cR)/\rw.nR+s'.aY.length<=1000000)/\
 ∀(x2:Option aF)(c2:Nat)(Xp:List av)(h2:dk 6 64 (rw.oR++(bg s'.aY.length).flatMap (fZ s'.aY)) x2 (rw.nR+s'.aY.length) c2 Xp),
 X ⟨rw.oS++(bg s'.bE.length).flatMap (lK s'.bE r.fv),x,rw.nS+s'.bE.length,c,bk,h,rw.oR++(bg s'.aY.length).flatMap (fZ s'.aY),x2,rw.nR+s'.aY.length,c2,Xp,h2⟩
def J3(k:LK)(sv:Sd.ai)(X:(s':Sd.ai)->TR->List av->bx fr (bd k (fE s'))->Prop):Prop:=∀s',s'=sv->∀(r:TR)(fn:List av)(F0:bx fr (bd k (fE s'))),cC=F0.vs->cC=F0.vr->vz fr s'.bE r.fv fn->X s' r fn F0
section
variable(C:aM)(u:an)(k:LK)(s:Sd.ai)(F:bx fr (bd k s))(fB:List av)(rw:ij)(G:ew)(eb:jy)(y:YA)(kd src:Int)(v:aj)(sm:fK)(bad:Bool)(K:VK (LG fr))
def Dv(ev:List V)(s:Sd.ai)(F:bx fr (bd k s))(fB:List av)(rw:ij):Prop:=K (.aD []) (iX k s G ev) (nF u k s F fB rw G eb y)
def O9(X:Prop):Prop:=OZ k s/\(ft k (bV s)/\cC=F.vs/\cC=F.vr)/\X
end
end
section
section
variable{fr:aQ->Nat×az}(C:aM)(u:an)(k:LK)(s:Sd.ai)(F:bx fr (bd k s))(fB:List av)(rw:ij)(G:ew)(eb:jy)(y:YA)(kd src:Int)(v:aj)(sm:fK)(bad:Bool)(K:VK (LG fr))
def avo:bz (wR du hY (zo fr C) (λ_ _=>ag)) 60 53 [.raw (.func (.yield y.l) #[] #[]),.ptr 5 0,.ptr 6 0] (iX k s G (dH 3 src v sm bad)) (nF u k s F fB rw G eb y) (bG 7 K)=
 (O9 k s F (J3 (fr:=fr) k ((bV s).tick C) λs' r fn F0=>yX y rw s' r λbN=>Dv u k G eb y K (dH 3 src v sm bad) (fE s') F0 (fn++fB) bN)):=kR
def avp:bz (wR du hY (zo fr C) (λ_ _=>ag)) 60 53 [.raw (.func (.yield y.l) #[] #[]),.ptr 5 0,.ptr 6 0] (iX k s G (dH 2 src v sm bad)) (nF u k s F fB rw G eb y) (bG 7 K)=
 (O9 k s F (J3 (fr:=fr) k ((bV s).lT C bad) λs' r fn F0=>yX y rw s' r λbN=>Dv u k G eb y K (dH 2 src v sm bad) (fE s') F0 (fn++fB) bN)):=kR
def avq:bz (wR du hY (zo fr C) (λ_ _=>ag)) 60 53 [.raw (.func (.yield y.l) #[] #[]),.ptr 5 0,.ptr 6 0] (iX k s G (dH 1 src v sm bad)) (nF u k s F fB rw G eb y) (bG 7 K)=
 (O9 k s F (J3 (fr:=fr) k ((bV s).iK C sm) λs' r fn F0=>yX y rw s' r λbN=>Dv u k G eb y K (dH 1 src v sm bad) (fE s') F0 (fn++fB) bN)):=kR
def avr(m:Nat):bz (wR du hY (zo fr C) (λ_ _=>ag)) 60 53 [.raw (.func (.yield y.l) #[] #[]),.ptr 5 0,.ptr 6 0] (iX k s G (dH (Int.negSucc m) src v sm bad)) (nF u k s F fB rw G eb y) (bG 7 K)=
 (Dv u k G eb y K (dH (Int.negSucc m) src v sm bad) s F fB rw):=kR
def avs(m:Nat):bz (wR du hY (zo fr C) (λ_ _=>ag)) 60 53 [.raw (.func (.yield y.l) #[] #[]),.ptr 5 0,.ptr 6 0] (iX k s G (dH (dS (m+4)) src v sm bad)) (nF u k s F fB rw G eb y) (bG 7 K)=
 (Dv u k G eb y K (dH (dS (m+4)) src v sm bad) s F fB rw):=kR
end
end
end Go.Proofs.YtddcipamdggcnaaGreatDoor
namespace Sd
def Gr(n:Nat)(s t:ai):Prop:=t.aY.length<=s.aY.length+n/\t.bE.length<=s.bE.length+n
def Gr.trans{n m:Nat}{s t u:ai}(h:Gr n s t)(k:Gr m t u):Gr (n+m) s u:=⟨by have:=h.1;have:=k.1;omega,by have:=h.2;have:=k.2;omega⟩
def Gr.le{n m:Nat}{s t:ai}(h:Gr n s t)(k:n<=m):Gr m s t:=⟨by have:=h.1;omega,by have:=h.2;omega⟩
def Gr.of{n m:Nat}{s s0 t:ai}(h:Gr n s0 t)(h1:s0.aY=s.aY)(h2:s0.bE=s.bE)(k:n<=m):Gr m s t:=⟨by have:=h.1;rw[h1]at this;omega,by have:=h.2;rw[h2]at this;omega⟩
def Gr.fin{n:Nat}{s t t':ai}(h:Gr n s t)(h1:t'.aY=t.aY)(h2:t'.bE=t.bE):Gr n s t':=⟨by rw[h1];exact h.1,by rw[h2];exact h.2⟩
def Gr.c0{s t:ai}(h1:t.aY=s.aY)(h2:t.bE=s.bE):Gr 0 s t:=⟨by rw[h1];exact cW _,by rw[h2];exact cW _⟩
section
variable(C:aM)(s:ai)
def J4(l:Int)(r:aQ):Gr 1 s (s.tell l r):=⟨by simp[ai.tell],by simp[ai.tell]⟩
def O_(l:Int)(r:aQ):Gr 1 s (s.eK l r):=by
 unfold ai.eK;split
 ·exact J4 s l r
 ·exact(Gr.c0 rfl rfl).le oM
def ox(k a n e h:Int):Gr 1 s (s.record C k a n e h):=⟨by simp[ai.record],by simp[ai.record]⟩
def Bb(l n e:Int):Gr 2 s (s.refuse C l n e):=(J4 s _ _).trans (ox C _ _ _ _ _ _)
def Pa(l e:Int):Gr 1 s (s.jW C l e):=ox C _ _ _ _ _ _
def wS(l n:Int):Gr 1 s (s.done l n):=J4 s _ _
def J5(l w e:Int):Gr 1 s (s.gone l w e):=O_ s _ _
def FZ(t:Tok)(how n:Int):Gr 3 s (s.goes C t how n):=
 ((Gr.c0 (s:=s) (t:={s with c:={s.c with t:=t,q:=Q.drop s.c.q t.aS}}) rfl rfl).trans (((O_ _ _ _).trans (O_ _ _ _)).trans (ox C _ _ _ _ _ _))).le oM
def afo(a:Int):Gr 2 s (s.leave C a):=by
 unfold ai.leave;dsimp only;split
 ·exact(Gr.c0 rfl rfl).le oM
 ·exact(Gr.of ((J5 _ _ _ _).trans (ox C _ _ _ _ _ _)) rfl rfl oM)
def avt(m:Int)(b:Label):Gr 0 s (s.eL m b):=Gr.c0 rfl rfl
def Pb{α:Type}{f:ai->α->ai}{n:Nat}(h:∀s a,Gr n s (f s a)):∀(l:List α)(s:ai),Gr (n*l.length) s (l.foldl f s)
 |[],s=>(Gr.c0 rfl rfl).le oM
 |a::l,s=>by
  rw[xg];exact((h s a).trans (Pb h l _)).le (by rw[jv,Nat.mul_add];omega)
def avu(l:Int)(n:Nat)(f:az):Gr 10 s (s.tJ C l n f):=by
 unfold ai.tJ;dsimp only
 repeat' split
 all_goals first
  |exact(Pa C s _ _).le oM
  |exact(Bb C s _ _ _).le oM
  |exact Gr.of ((J4 _ _ _).trans (ox C _ _ _ _ _ _)) rfl rfl oM
def avv(l:Int)(n:Nat)(f:az):Gr 10 s (s.prove C l n f):=by
 unfold ai.prove;dsimp only
 repeat' split
 all_goals first
  |exact Gr.of (Pa C _ _ _) rfl rfl oM
  |exact Gr.of (Bb C _ _ _ _) rfl rfl oM
  |exact Gr.of ((J4 _ _ _).trans (ox C _ _ _ _ _ _)) rfl rfl oM
def avw(l:Int)(m:ca):Gr 10 s (s.lv C l m):=by
 unfold ai.lv;split
 ·exact(wS s _ _).le oM
 split
 ·exact(Gr.of ((afo C _ _).trans ((ox C _ _ _ _ _ _).trans (wS _ _ _))) rfl rfl oM)
 split
 ·unfold ai.ask;dsimp only;split
  ·exact(Bb C s _ _ _).le oM
  ·split
   ·exact(Gr.of ((FZ C _ _ _ _).trans (wS _ _ _)) rfl rfl oM)
   ·exact(Gr.of ((ox C _ _ _ _ _ _).trans (wS _ _ _)) rfl rfl oM)
 split
 ·unfold ai.offer;dsimp only;split
  ·exact(Bb C s _ _ _).le oM
  ·exact(Gr.of ((O_ _ _ _).trans ((ox C _ _ _ _ _ _).trans (wS _ _ _))) rfl rfl oM)
 split
 ·unfold ai.accept;dsimp only;split
  ·exact(Bb C s _ _ _).le oM
  ·exact((FZ C _ _ _ _).trans (wS _ _ _)).le oM
 split
 ·unfold ai.gE;dsimp only;split
  ·exact(Bb C s _ _ _).le oM
  ·exact(Gr.of ((J5 _ _ _ _).trans ((ox C _ _ _ _ _ _).trans (wS _ _ _))) rfl rfl oM)
 split
 ·unfold ai.release;dsimp only;split
  ·exact(Bb C s _ _ _).le oM
  ·exact(Gr.of ((FZ C _ _ _ _).trans (wS _ _ _)) rfl rfl oM)
 split
 ·unfold ai.command;dsimp only;split
  ·exact(Bb C s _ _ _).le oM
  ·split
   ·exact(Gr.of ((ox C _ _ _ _ _ _).trans (wS _ _ _)) rfl rfl oM)
   ·exact(Gr.of ((ox C _ _ _ _ _ _).trans (wS _ _ _)) rfl rfl oM)
 ·exact(Gr.c0 rfl rfl).le oM
def avx(l code:Int)(n:Nat)(f:az):Gr 10 s (s.item C l code n f):=by
 unfold ai.item;split
 ·exact(Pa C s _ _).le oM
 split
 ·exact avu C s _ _ _
 split
 ·exact avv C s _ _ _
 split
 ·exact(Pa C s _ _).le oM
 ·exact(Gr.of (avw C _ _ _) rfl rfl oM)
def avy(x:fK):Gr 10 s (s.iK C x):=by
 unfold ai.iK;dsimp only
 repeat' split
 all_goals first
  |exact Gr.of (FZ C _ _ _ _) rfl rfl oM
  |exact Gr.of (ox C _ _ _ _ _ _) rfl rfl oM
  |exact(Gr.c0 rfl rfl).le oM
end
def Ql(s t:ai):Prop:=t.c.q.length<=s.c.q.length
def Ql.trans{s t u:ai}(h:Ql s t)(k:Ql t u):Ql s u:=h_ k h
def Ql.of{s t:ai}(h:t.c.q=s.c.q):Ql s t:=by unfold Ql;rw[h];exact cW _
def Xq(q:List Ask)(a:Int):(Q.drop q a).length<=q.length:=Lc _ _
def avz(C:aM)(s:ai)(a:Int):Ql s (s.leave C a):=by
 unfold ai.leave;dsimp only;split
 ·exact Xq _ _
 ·unfold Ql;rw[ai.IC,ai.mg];exact Xq _ _
def avA(C:aM)(s:ai)(t:Tok)(how n:Int):Ql s (s.goes C t how n):=by
 unfold Ql ai.goes;dsimp only;rw[ai.IC,ai.kU,ai.kU];exact Xq _ _
def afp{α:Type}{f:ai->α->ai}(h:∀s a,Ql s (f s a)):∀(l:List α)(s:ai),Ql s (l.foldl f s)
 |[],s=>cW _
 |a::l,s=>(h s a).trans (afp h l _)
def avB(C:aM)(s:ai)(bad:Bool)(hq:s.c.q.length<=3):Gr 10 s (s.lT C bad):=by
 unfold ai.lT;dsimp only;split
 ·exact(Gr.c0 rfl rfl).le oM
 ·have h2:∀s2:ai,Gr 3 s s2->Ql s s2->Gr 10 s (s2.c.q.foldl (λ(s:ai)(a:Ask)=>({s with c:={s.c with q:=Q.drop s.c.q a.source}}:ai).gone a.source 4 29) s2):=by
   intro s2 g q;refine(g.trans (Pb (n:=1) (f:=λ(s:ai)(a:Ask)=>({s with c:={s.c with q:=Q.drop s.c.q a.source}}:ai).gone a.source 4 29) (λs a=>Gr.of (J5 _ _ _ _) rfl rfl oM) s2.c.q s2)).le ?_;have:s2.c.q.length<=s.c.q.length:=q;omega
  split
  ·refine Gr.fin ?_ rfl rfl;exact h2 _ (Gr.of (FZ C _ _ _ _) rfl rfl oM) (Ql.trans (Ql.of (s:=s) rfl) (avA C _ _ _ _))
  ·refine Gr.fin ?_ rfl rfl;exact h2 _ ((Gr.c0 rfl rfl).le oM) (Ql.of rfl)
def avC(C:aM)(s:ai):Gr 3 s (s.dL C):=by
 unfold ai.dL;dsimp only
 repeat' split
 all_goals first
  |exact Gr.of ((FZ C _ _ _ _).trans (avt _ _ _)) rfl rfl oM
  |exact(Gr.c0 rfl rfl).le oM
def avD(C:aM)(s:ai)(hq:s.c.q.length<=3)(he:s.c.ay.ended.length<=4):Gr 40 s (s.tick C):=by
 unfold ai.tick;dsimp only;have g1:=Pb (n:=3) (f:=λ(s:ai)(x:Int)=>if linked x then(s.record C 5 x 0 0 0).leave C x else s.record C 5 x 0 0 0) (λs x=>by
  split
  ·exact(ox C s _ _ _ _ _).trans (afo C _ _)
  ·exact(ox C s _ _ _ _ _).le oM) s.c.ay.ended {s with c:={s.c with ay:=s.c.ay.tick}}
 have q1:=afp (f:=λ(s:ai)(x:Int)=>if linked x then(s.record C 5 x 0 0 0).leave C x else s.record C 5 x 0 0 0) (λs x=>by
  split
  ·exact Ql.trans (Ql.of (ai.IC C s _ _ _ _ _)) (avz C _ _)
  ·exact Ql.of (ai.IC C s _ _ _ _ _)) s.c.ay.ended {s with c:={s.c with ay:=s.c.ay.tick}}
 generalize List.foldl (λ(s:ai)(x:Int)=>if linked x then(s.record C 5 x 0 0 0).leave C x else s.record C 5 x 0 0 0) {s with c:={s.c with ay:=s.c.ay.tick}} s.c.ay.ended=s1 at*;have G1:Gr 12 s s1:=(Gr.of g1 rfl rfl oM);have Q1:s1.c.q.length<=3:=h_ q1 hq;have H:∀s3:ai,Gr 2 s1 s3->s3.c.q=s1.c.q->Gr 40 s (((Q.gone s3.c.q).foldl (λ(s:ai)(a:Ask)=>(s.gone a.source a.source 30).record C 12 a.source 0 30 0) {s3 with c:={s3.c with q:=Q.kept s3.c.q}}).dL C):=by
  intro s3 g3 e3;have hl:(Q.gone s3.c.q).length<=3:=by
   rw[e3];refine h_ ?_ Q1;unfold Q.gone;refine h_ (Lc _ _) ?_;unfold Q.pI;rw[GA];exact cW _
  have hf:=Pb (n:=2) (f:=λ(s:ai)(a:Ask)=>(s.gone a.source a.source 30).record C 12 a.source 0 30 0) (λs a=>(J5 s _ _ _).trans (ox C _ _ _ _ _ _)) (Q.gone s3.c.q) {s3 with c:={s3.c with q:=Q.kept s3.c.q}};have hf:Gr 6 s3 _:=Gr.of hf rfl rfl (Nat.mul_le_mul_left 2 hl);have:=((G1.trans g3).trans hf).trans (avC C _);exact⟨h_ this.1 (by show s.aY.length+(12+2+6+3)<=_;omega),h_ this.2 (by show s.bE.length+(12+2+6+3)<=_;omega)⟩
 refine Gr.fin (H _ ?_ ?_) rfl rfl
 ·split
  ·exact Gr.of ((J5 _ _ _ _).trans (ox C _ _ _ _ _ _)) rfl rfl oM
  ·exact(Gr.c0 rfl rfl).le oM
 ·split
  ·rw[ai.IC,ai.mg];rfl
  ·rfl
def afq(l:List Rec):Int:=l.foldl (λa r=>if r.kind=8 then a+1 else a) 0
def afr(l:List Rec):Int:=l.foldl (λa r=>if r.kind=8 then r.how else a) 0
structure Wn where
 p:aX
 xh:Int
 xe:Int
 xo:Int
 avE:Bool
 n:Nat
 q:Nat->Int
 yh:Int
 ye:Int
 yo:Int
 avF:Bool
 on:Int->Bool
 l:List Rec
 kind:Int
 link:Int
def avG(w:Wn)(how:Int):Prop:=
 (how=1/\w.kind=0/\w.xo=w.yh/\w.link=w.yh)\/
 (how=2/\w.kind<2/\0<w.n/\w.q 0=w.yh/\(w.kind=1↔w.xh=0))\/
 (how=3/\w.kind=0/\w.link=w.yh/\qH w.p w.yh w.xh=af/\w.avE=ah)\/
 (how=4/\w.kind=1/\w.yh=0)\/
 (how=5/\w.kind=3/\w.on w.xh=ah/\w.on w.yh=af)\/
 (how=6/\w.yh=4/\((w.kind=2/\w.avF=af)\/(w.kind=3/\w.xe=65535/\w.on w.xh=ah)))
structure aAh(w:Wn):Prop where
 hx:0<=w.xh/\w.xh<=4
 hy:0<=w.yh/\w.yh<=4
 ex:0<=w.xe/\w.xe<=65535
 kd:0<=w.kind/\w.kind<=3
 len:w.l.length<=1000
 aAi:∀j,j<w.l.length->(w.l.getD j default).kind=8->(w.l.getD j default).source=w.yh/\(w.l.getD j default).au=w.ye
 how:(w.yh=w.xh/\w.ye=w.xe/\afq w.l=0)\/(w.yh≠w.xh/\afq w.l=1/\w.yo=-1/\((w.ye=w.xe+1)\/(w.xe=65535/\w.ye=w.xe/\afr w.l=6))/\avG w (afr w.l))
def wy.link{a b:Core}{k l l' how:Int}(h:wy a b k l how)(hk:k≠0):wy a b k l' how:=by
 unfold wy at h⊢;rcases h with h|h|h|h|h|h
 ·exact absurd h.2.1 hk
 ·exact .inr (.inl h)
 ·exact absurd h.2.1 hk
 ·exact .inr (.inr (.inr (.inl h)))
 ·exact .inr (.inr (.inr (.inr (.inl h))))
 ·exact .inr (.inr (.inr (.inr (.inr h))))
def gb.link{C:aM}{b:Prop}{s s':ai}{k l l':Int}(h:gb C b s s' k l)(hk:k≠0):gb C b s s' k l':=
 ⟨h.inv,h.AL.imp id λ⟨how,g,w⟩=>⟨how,g,w.link hk⟩⟩
def ai.glue(a b:ai):ai:=⟨b.c,a.bE++b.bE,a.aY++b.aY⟩
def ai.bare(s:ai):ai:=⟨s.c,[],[]⟩
def ui(C:aM)(l:Int):List It->ai->ai
 |[],s=>s
 |i::is,s=>ui C l is (s.glue (s.bare.item C l i.code i.n i.f))
structure Ev where
 kind:Int
 source:Int
 n:Nat
 f:az
 s:fK
 bad:Bool
structure dU where
 s:ai
 r:Nat->Rest
def F5(r:Nat->Rest)(i:Nat)(x:Rest):Nat->Rest:=λj=>if j=i then x else r j
def dU.step(C:aM)(crc:az->Nat->Int)(m:dU)(e:Ev):dU:=
 if e.kind=0 then
  if 1<=e.source/\e.source<=3 then
   let t:=sU crc (m.r (e.source.toNat-1)) e.n e.f
   ⟨ui C e.source t.1 m.s.bare,F5 m.r (e.source.toNat-1) t.2⟩
  else⟨m.s.bare,m.r⟩
 else if e.kind=1 then⟨m.s.bare.iK C e.s,m.r⟩
 else if e.kind=2 then⟨m.s.bare.lT C e.bad,m.r⟩
 else if e.kind=3 then⟨m.s.bare.tick C,m.r⟩
 else⟨m.s.bare,m.r⟩
end Sd
namespace Go.Proofs.YtddcipamdggcnaaGreatDoor
section
variable{fr:aQ->Nat×az}
structure Acc(S s:Sd.ai)(rw:ij)(fB:List av)(fr:aQ->Nat×az):Prop where
 c:s=fE S
 nS:rw.nS=S.bE.length
 oS:∃fv,rw.oS=(bg S.bE.length).flatMap (lK S.bE fv)/\vz fr S.bE fv fB
 nR:rw.nR=S.aY.length
 oR:rw.oR=(bg S.aY.length).flatMap (fZ S.aY)
def J6{α:Type}(a b:List α)(d:α){j:Nat}(h:j<a.length):(a++b).getD j d=a.getD j d:=by
 rw[qx,qx,gB h]
def J7{α:Type}(a b:List α)(d:α)(j:Nat):(a++b).getD (a.length+j) d=b.getD j d:=by
 rw[qx,qx,vI oM,ag6]
def afs{α:Type}(a b:List α)(g g1 g2:Nat->List aj)(h1:∀j,j<a.length->g j=g1 j)(h2:∀j,g (a.length+j)=g2 j):
 (bg (a.length+b.length)).flatMap g=(bg a.length).flatMap g1++(bg b.length).flatMap g2:=by
 rw[List.range_add,vL,List.flatMap_map];congr 1
 ·rw[GF,GF];congr 1;exact mB λj hj=>h1 j (List.mem_range.1 hj)
 ·rw[GF,GF];congr 1;exact mB λj _=>h2 j
def Acc.next{S s s':Sd.ai}{rw:ij}{fB fn:List av}(h:Acc S s rw fB fr){r:TR}(hf:vz fr s'.bE r.fv fn){bN:ij}(e1:bN.nS=rw.nS+s'.bE.length)(e2:bN.oS=rw.oS++(bg s'.bE.length).flatMap (lK s'.bE r.fv))(e3:bN.nR=rw.nR+s'.aY.length)(e4:bN.oR=rw.oR++(bg s'.aY.length).flatMap (fZ s'.aY)):
 Acc (S.glue s') (fE s') bN (fn++fB) fr:=by
 obtain⟨fv,o1,o2⟩:=h.oS;refine⟨rfl,?_,⟨λj=>if j<S.bE.length then fv j else r.fv (j-S.bE.length),?_,?_⟩,?_,?_⟩
 ·rw[e1,h.nS];simp[Sd.ai.glue]
 ·rw[e2,o1];show _=(bg (S.bE++s'.bE).length).flatMap _;rw[fH];refine(afs S.bE s'.bE _ _ _ (λj hj=>?_) (λj=>?_)).symm
  ·show lK (S.bE++s'.bE) _ j=_;unfold lK;rw[J6 _ _ _ hj];simp only[if_pos hj]
  ·show lK (S.bE++s'.bE) _ _=_;unfold lK;rw[J7];simp only[if_neg (show¬S.bE.length+j<S.bE.length by omega),ag6]
 ·intro j hj;have hj:j<(S.bE++s'.bE).length:=hj;rw[fH]at hj;show∃x c b,_=(⟨x,(fr ((S.bE++s'.bE).getD j default).2).1,c⟩:lh)/\ff 5 (fr ((S.bE++s'.bE).getD j default).2).1 (fr ((S.bE++s'.bE).getD j default).2).2 x c b/\_;by_cases dy:j<S.bE.length
  ·obtain⟨x,c,b,h1,h2,h3⟩:=o2 j dy;rw[J6 _ _ _ dy];exact⟨x,c,b,by simp only[if_pos dy];exact h1,h2,λy hy=>by simp[h3 y hy]⟩
  ·obtain⟨x,c,b,h1,h2,h3⟩:=hf (j-S.bE.length) oM;have e:=J7 S.bE s'.bE default (j-S.bE.length);rw[show S.bE.length+(j-S.bE.length)=j by omega]at e;rw[e];exact⟨x,c,b,by simp only[if_neg dy];exact h1,h2,λy hy=>by simp[h3 y hy]⟩
 ·rw[e3,h.nR];simp[Sd.ai.glue]
 ·rw[e4,h.oR];show _=(bg (S.aY++s'.aY).length).flatMap _;rw[fH];refine(afs S.aY s'.aY _ _ _ (λj hj=>?_) (λj=>?_)).symm
  ·show fZ (S.aY++s'.aY) j=_;unfold fZ;rw[J6 _ _ _ hj]
  ·show fZ (S.aY++s'.aY) _=_;unfold fZ;rw[J7]
structure wT(fr:aQ->Nat×az)(C:aM)(k:LK)(l:Int)(S0:Sd.ai)(G:ew)(i:Nat)(eb:jy) where
 L:List (Int×lh)
 bs:List dD
 x:Option aF
 cc:Nat
 ty:Nat
 us:List aj
 r':dD
 j:Nat
 s:Sd.ai
 F:bx fr (bd k s)
 fB:List av
 rw:ij
 hL:lL L bs (lj G i eb).1
 h1:r'.n=(lj G i eb).2.1
 h2:∀j,j<r'.n->(lj G i eb).2.2 j=r'.f j
 h3:By r'.f
 h4:L.length<=1000
 hj:j<=L.length
 ok:ft k s
 most:s.c.p.queue=k.most
 v1:cC=F.vs
 v2:cC=F.vr
 acc:Acc (Sd.ui C l ((lj G i eb).1.take j) S0) s rw fB fr
 b1:rw.nS<=10*j
 b2:rw.nR<=10*j
section
variable(C:aM)(u:an)(k:LK)(l:Int)(S0:Sd.ai)(G:ew)(i:Nat)(eb:jy)(y:YA)(v:aj)(sm:fK)(bad:Bool)(K:VK (LG fr))
def Xr(X:wT fr C k l S0 G i eb):List V:=[.raw (.func (.yield y.l) #[] #[]),.ptr 5 0,.ptr 6 0,.dB 7 0 X.L.length X.cc X.x,.int .i64 (X.L.length:Int),.int .i64 (X.j:Int)]
def Xs(X:wT fr C k l S0 G i eb):List VB:=iX k X.s G (dH 0 l v sm bad)++[jf X.ty 2 X.L.length (wQ X.L) X.us]
def Xt(X:wT fr C k l S0 G i eb):List (LG fr):=[.br u,.core (bj k X.s X.F) X.fB,nD X.rw,nE X.rw,.mu (G.set i X.r'),.rd eb,.ou X.bs,o_ y X.s X.rw]
def F6:Lp (LG fr):=we (X:=wT fr C k l S0 G i eb) (λX=>X.L.length-X.j) 77 8 [0,1,2,28,29,30] (Xr C k l S0 G i eb y) (Xs C k l S0 G i eb v sm bad) (Xt C u k l S0 G i eb y) (λ_=>rfl) (λ_=>rfl) (λ_=>rfl)
def F7(X:wT fr C k l S0 G i eb):Int×lh:=X.L.getD (X.j:Int).toNat (0,⟨ag,0,0⟩)
def imE(X:wT fr C k l S0 G i eb)(s':Sd.ai)(F0:bx fr (bd k (fE s')))(fn:List av)(bN:ij):Prop:=af=af/\uY (λX:wT fr C k l S0 G i eb=>X.L.length-X.j) (Xr C k l S0 G i eb y) (Xs C k l S0 G i eb v sm bad) (Xt C u k l S0 G i eb y) X
 [.raw (.func (.yield y.l) #[] #[]),.ptr 5 0,.ptr 6 0,.dB 7 0 X.L.length X.cc X.x,.int .i64 (X.L.length:Int),.int .i64 (i64.wrap ((X.j:Int)+1))] (iX k (fE s') G (dH 0 l v sm bad)++[jf X.ty 2 X.L.length (wQ X.L) X.us])
 [.br u,.core (bj k (fE s') F0) (fn++X.fB),nD bN,nE bN,.mu (G.set i X.r'),.rd eb,.ou X.bs,o_ y (fE s') bN]
def Pc(s:Sd.ai)(F:bx fr (bd k s))(fB:List av)(rw:ij):Prop:=
 ∃(i':Nat)(k':LK),(i'<3/\G.a i=G.a i'/\v=eb.v/\(iX k s G (dH 0 l v sm bad))[0]?=aa (cx k')/\By (G.r i').f/\By eb.f/\(G.r i').n+eb.n<=1000000/\bY (iX k s G (dH 0 l v sm bad)).length (iX k s G (dH 0 l v sm bad))=af)/\
  ∀(L:List (Int×lh))(bs:List dD)(x:Option aF)(cc ty:Nat)(us:List aj)(r':dD),lL L bs (lj G i' eb).1->r'.n=(lj G i' eb).2.1->r'.n<=(G.r i').n+eb.n->(∀j,j<r'.n->(lj G i' eb).2.2 j=r'.f j)->By r'.f->L.length<=(G.r i').n+eb.n->
   (af=af/\uX (Xr C k l S0 G i eb y) (Xs C k l S0 G i eb v sm bad) (Xt C u k l S0 G i eb y)
    [.raw (.func (.yield y.l) #[] #[]),.ptr 5 0,.ptr 6 0,.dB 7 0 L.length cc x,.int .i64 (L.length:Int),.int .i64 0] (iX k s G (dH 0 l v sm bad)++[jf ty 2 L.length (wQ L) us])
    [.br u,.core (bj k s F) fB,nD rw,nE rw,.mu (G.set i' r'),.rd eb,.ou bs,o_ y s rw])/\
   ∀(X:wT fr C k l S0 G i eb)(g:Nat->aj),cond (decide ((X.j:Int)<(X.L.length:Int)))
    (((0:Int)<=(X.j:Int)/\(X.j:Int)<(X.L.length:Int))/\((X.j:Int).toNat<X.L.length/\∀j,(wQ X.L j).length=2)/\OZ k X.s/\Du k/\∃b:dD,(tj (F7 C k l S0 G i eb X).2.x (F7 C k l S0 G i eb X).2.n (F7 C k l S0 G i eb X).2.c=b.v/\
     (b.B=[]\/∃bs,LG.ou bs∈[nD X.rw,nE X.rw,.mu (G.set i X.r'),.rd eb,.ou X.bs,o_ (fr:=fr) y X.s X.rw]/\b∈bs)/\ft k (bV X.s)/\cC=X.F.vs/\cC=X.F.vr/\b.n<=58/\By b.f)/\
      J3 (fr:=fr) k (zk C (bV X.s) l (F7 C k l S0 G i eb X).1 b.n b.f) λs' r fn F0=>yX y X.rw s' r λbN=>imE C u k l S0 G i eb y v sm bad X s' F0 fn bN)
    (K (.aD []) (iX k X.s G (dH 0 l v sm bad)) [.br u,.core (bj k X.s X.F) X.fB,nD X.rw,nE X.rw,.mu (G.set i X.r'),.rd eb,.ou X.bs,o_ y X.s X.rw])
end
section
variable(C:aM)(u:an)(k:LK)(S0:Sd.ai)(G:ew)(eb:jy)(y:YA)(v:aj)(sm:fK)(bad:Bool)(K:VK (LG fr))(s:Sd.ai)(F:bx fr (bd k s))(fB:List av)(rw:ij)
def avH:bz (wR du hY (zo fr C) (λi _=>ja 1 (F6 C u k 1 S0 G 0 eb y v sm bad) i)) 60 53 [.raw (.func (.yield y.l) #[] #[]),.ptr 5 0,.ptr 6 0] (iX k s G (dH 0 1 v sm bad)) (nF u k s F fB rw G eb y) (bG 7 K)=
 Pc C u k 1 S0 G 0 eb y v sm bad K s F fB rw:=kR
def avI:bz (wR du hY (zo fr C) (λi _=>ja 1 (F6 C u k 2 S0 G 1 eb y v sm bad) i)) 60 53 [.raw (.func (.yield y.l) #[] #[]),.ptr 5 0,.ptr 6 0] (iX k s G (dH 0 2 v sm bad)) (nF u k s F fB rw G eb y) (bG 7 K)=
 Pc C u k 2 S0 G 1 eb y v sm bad K s F fB rw:=kR
def avJ:bz (wR du hY (zo fr C) (λi _=>ja 1 (F6 C u k 3 S0 G 2 eb y v sm bad) i)) 60 53 [.raw (.func (.yield y.l) #[] #[]),.ptr 5 0,.ptr 6 0] (iX k s G (dH 0 3 v sm bad)) (nF u k s F fB rw G eb y) (bG 7 K)=
 Pc C u k 3 S0 G 2 eb y v sm bad K s F fB rw:=kR
end
def aft{y:YA}{rw:ij}{s':Sd.ai}{r:TR}{X:ij->Prop}(ht:y.tm.size=42/\y.tm.getD 5 undef=.pointer (aa ⟨y.a,0,ag⟩))(h1:rw.nS+s'.bE.length<=1000000)(h2:rw.nR+s'.aY.length<=1000000)
 (hX:∀bN:ij,bN.nS=rw.nS+s'.bE.length->bN.oS=rw.oS++(bg s'.bE.length).flatMap (lK s'.bE r.fv)->bN.nR=rw.nR+s'.aY.length->bN.oR=rw.oR++(bg s'.aY.length).flatMap (fZ s'.aY)->X bN):yX y rw s' r X:=by
 refine⟨⟨rfl,rfl,rfl,rfl,ht.1,ht.2⟩,⟨rfl,λ_=>rfl,λj u hu=>?_⟩,⟨rfl,h1⟩,λx c bk h=>⟨⟨rfl,λ_=>rfl,λj u hu=>?_⟩,⟨rfl,h2⟩,λx2 c2 Xp h2=>hX _ rfl rfl rfl rfl⟩⟩
 ·simp only[lK,cG,py,or_false]at hu;rcases hu with rfl|rfl<;>rfl
 ·simp only[fZ,cG,py,or_false]at hu;rcases hu with rfl|rfl|rfl|rfl|rfl|rfl<;>rfl
def lL.get{L:List (Int×lh)}{bs:List dD}{fF:List Sd.It}(h:lL L bs fF):∀{j:Nat},j<L.length->∃(b:dD)(i:Sd.It),fF[j]?=aa i/\(L.getD j (0,⟨ag,0,0⟩)).1=i.code/\tj (L.getD j (0,⟨ag,0,0⟩)).2.x (L.getD j (0,⟨ag,0,0⟩)).2.n (L.getD j (0,⟨ag,0,0⟩)).2.c=b.v/\(b.B=[]\/b∈bs)/\b.n=i.n/\b.f=i.f/\b.n<=32/\By b.f:=by
 induction h with
 |nil=>intro j hj;simp at hj
 |@Xj L bs fF h code i h1 h2 h3 ih=>
  intro j hj;have dl:=h.len;by_cases dy:j<L.length
  ·obtain⟨b,i',g1,g2,g3,g4,g5⟩:=ih dy;rw[J6 _ _ _ dy];exact⟨b,i',by rw[gB oM];exact g1,g2,g3,g4,g5⟩
  ·have e:j=L.length:=by simp at hj;omega
   subst e;have e:=J7 L [(code,(⟨ag,0,0⟩:lh))] (0,⟨ag,0,0⟩) 0;rw[lM]at e;rw[e];refine⟨⟨0,i.f,ag,0,[],cW _,.inl ⟨rfl,rfl,rfl,rfl⟩⟩,i,?_,h1.symm,rfl,.inl rfl,h2.symm,rfl,oG _,h3⟩;rw[dl,vI (cW _),Nat.sub_self];rfl
 |@body L bs fF h b i h1 h2 h3 h4 h5 h6 ih=>
  intro j hj;have dl:=h.len;by_cases dy:j<L.length
  ·obtain⟨b',i',g1,g2,g3,g4,g5⟩:=ih dy;rw[J6 _ _ _ dy];exact⟨b',i',by rw[gB oM];exact g1,g2,g3,g4.imp id (λh=>by simp[h]),g5⟩
  ·have e:j=L.length:=by simp at hj;omega
   subst e;have e:=J7 L [((0:Int),(⟨b.x,b.n,b.c⟩:lh))] (0,⟨ag,0,0⟩) 0;rw[lM]at e;rw[e];refine⟨b,i,?_,h1.symm,rfl,.inr sP,h2.symm,funext h3,h5,h6⟩;rw[dl,vI (cW _),Nat.sub_self];rfl
def afu(C:aM)(l:Int):∀(fF:List Sd.It)(i:Sd.It)(s:Sd.ai),Sd.ui C l (fF++[i]) s=(Sd.ui C l fF s).glue ((Sd.ui C l fF s).bare.item C l i.code i.n i.f)
 |[],i,s=>rfl
 |a::fF,i,s=>afu C l fF i _
section
variable{u:an}{k:LK}{l:Int}{S0:Sd.ai}{G:ew}{i:Nat}{eb:jy}{y:YA}{v:aj}{sm:fK}{bad:Bool}{K:VK (LG fr)}{s:Sd.ai}{F:bx fr (bd k s)}{fB:List av}{rw:ij}
def Xu(hl:1<=l/\l<=3)(hi:i<3)(hv:v=eb.v)(hr:By (G.r i).f)(he:By eb.f)(dr:(G.r i).n+eb.n<=1000)(ht:y.tm.size=42/\y.tm.getD 5 undef=.pointer (aa ⟨y.a,0,ag⟩))(hok:ft k s)(avK:s.c.p.queue=k.most)(O7:Du k)(v1:cC=F.vs)(v2:cC=F.vr)
 (Pd:Acc S0 s rw fB fr) (hS:rw.nS=0) (hR:rw.nR=0)
 (hK:∀X:wT fr (aO aU) k l S0 G i eb,X.j=X.L.length->K (.aD []) (iX k X.s G (dH 0 l v sm bad)) [.br u,.core (bj k X.s X.F) X.fB,nD X.rw,nE X.rw,.mu (G.set i X.r'),.rd eb,.ou X.bs,o_ y X.s X.rw]):
 Pc (aO aU) u k l S0 G i eb y v sm bad K s F fB rw:=by
 refine⟨i,k,⟨hi,rfl,hv,rfl,hr,he,oM,rfl⟩,λL bs x cc ty us r' h1 h2 h3 h4 h5 h6=>⟨⟨rfl,⟨L,bs,x,cc,ty,us,r',0,s,F,fB,rw,h1,h2,h4,h5,oM,oG _,hok,avK,v1,v2,Pd,oM,oM⟩,rfl,rfl,rfl⟩,λX g=>aN (λe=>?_) (λe=>?_)⟩⟩
 ·have dy:X.j<X.L.length:=by have:=of_decide_eq_true e;omega
  have uj:((X.j:Int)).toNat=X.j:=tf _;obtain⟨b,it,g1,g2,g3,g4,g5,g6,g7,g8⟩:=X.hL.get dy;have hP:F7 (aO aU) k l S0 G i eb X=X.L.getD X.j (0,⟨ag,0,0⟩):=by unfold F7;rw[uj]
  refine⟨⟨oM,oM⟩,⟨oM,λ_=>rfl⟩,⟨rfl,rfl,by rw[nu],rfl,rfl,X.most⟩,O7,b,⟨by rw[hP];exact g3,g4.imp id (λh=>⟨X.bs,sP,h⟩),by rw[nu];exact X.ok,X.v1,X.v2,oM,g8⟩,?_⟩;rw[hP,g2,g5,g6,nu];intro s' iJ r fn F0 w1 w2 hf;have Xv:s'=X.s.item (aO aU) l it.code it.n it.f:=by rw[iJ];unfold zk;rw[if_pos hl]
  have J8:=Sd.avx (aO aU) X.s l it.code it.n it.f;rw[<-Xv]at J8;have q1:s'.aY.length<=10:=by have:=J8.1;rw[X.ok.e2]at this;simpa using this
  have q2:s'.bE.length<=10:=by have:=J8.2;rw[X.ok.e1]at this;simpa using this
  have b1:=X.b1;have b2:=X.b2;have hL:=X.h4;refine aft ht oM oM λbN e1 e2 e3 e4=>?_;have afv:=X.acc.next hf e1 e2 e3 e4;have b_:Sd.ui (aO aU) l ((lj G i eb).1.take (X.j+1)) S0=(Sd.ui (aO aU) l ((lj G i eb).1.take X.j) S0).glue s':=by
   have ht:(lj G i eb).1.take (X.j+1)=(lj G i eb).1.take X.j++[it]:=by
    rw[List.take_add_one,g1];rfl
   rw[ht,afu];congr 1;rw[Xv];congr 1;exact X.acc.c.symm
  rw[<-b_]at afv;have avL:ft k (fE s'):=by
   have:=X.ok.item l it.code it.n it.f;rw[iJ];exact this
  have avM:(fE s').c.p.queue=k.most:=by
   have:s'.c.p=X.s.c.p:=by rw[Xv];exact JR (b:=False) (Un Dj X.ok.i hl (λe=>e.elim))
   show s'.c.p.queue=_;rw[this];exact X.most
  refine⟨rfl,⟨X.L,X.bs,X.x,X.cc,X.ty,X.us,X.r',X.j+1,fE s',F0,fn++X.fB,bN,X.hL,X.h1,X.h2,X.h3,X.h4,dy,avL,avM,w1,w2,afv,oM,oM⟩,?_,?_,rfl,rfl⟩
  ·show X.L.length-(X.j+1)<X.L.length-X.j;omega
  ·rw[show i64.wrap ((X.j:Int)+1)=((X.j+1:Nat):Int) by rw[lg oM];rfl];rfl
 ·have fJ:¬X.j<X.L.length:=by have:=of_decide_eq_false e;omega
  exact hK X (by have:=X.hj;omega)
end
end
end Go.Proofs.YtddcipamdggcnaaGreatDoor
namespace Sd
def qK(n:Nat)(f:az):az:=λj=>if j<n then f j else 0
def takeN(crc:az->Nat->Int)(r:Rest)(n:Nat)(f:az):List It×Rest:=((sU crc r n f).1,((sU crc r n f).2.1,qK (sU crc r n f).2.1 (sU crc r n f).2.2))
def dU.go(C:aM)(crc:az->Nat->Int)(m:dU)(e:Ev):dU:=
 if e.kind=0 then
  if 1<=e.source/\e.source<=3 then⟨ui C e.source (takeN crc (m.r (e.source.toNat-1)) e.n e.f).1 m.s.bare,F5 m.r (e.source.toNat-1) (takeN crc (m.r (e.source.toNat-1)) e.n e.f).2⟩
  else⟨m.s.bare,m.r⟩
 else if e.kind=1 then⟨m.s.bare.iK C e.s,m.r⟩
 else if e.kind=2 then⟨m.s.bare.lT C e.bad,m.r⟩
 else if e.kind=3 then⟨m.s.bare.tick C,m.r⟩
 else⟨m.s.bare,m.r⟩
def avN{crc:az->Nat->Int}{n:Nat}{f:az}(h:(dZ crc n f).kind=0):n<=36:=by
 revert h;unfold dZ;split
 ·intro _;omega
 split
 ·intro h;exact absurd (show(1:Int)=0 from h) dC
 split
 ·intro _;omega
 split
 ·intro h;exact absurd (show(3:Int)=0 from h) dC
 split
 ·intro _;omega
 split
 ·intro h;exact absurd (show(3:Int)=0 from h) dC
 split
 ·intro _;omega
 split
 ·intro h;exact absurd (show(3:Int)=0 from h) dC
 ·intro h;exact absurd (show(2:Int)=0 from h) dC
def avO{crc:az->Nat->Int}{r:Rest}{n:Nat}{f:az}(hr:∀j,0<=r.2 j)(hf:∀j,0<=f j):(sU crc r n f).2.1<=36:=by
 refine avN (crc:=crc) (f:=(sU crc r n f).2.2) ?_;refine ae6 (crc:=crc) _ _ _ (cW _) (λj=>?_);unfold o9;split
 ·exact hr j
 ·exact hf _
end Sd
namespace Go.Proofs.YtddcipamdggcnaaGreatDoor
section
variable{fr:aQ->Nat×az}
def avP{T n:Nat}{f:Nat->Int}{x:Option aF}{c:Nat}{B:List av}(h:ff T n f x c B):ff T n (Sd.qK n f) x c B:=by
 refine⟨h.1,h.2.imp id ?_⟩;rintro⟨b,h1,h2⟩;refine⟨b,h1,?_⟩;rw[h2];have e:bM n f c=bM n (Sd.qK n f) c:=by
  unfold bM;rw[Ec (g:=Sd.qK n f) λj hj=>by unfold Sd.qK;rw[if_pos hj]]
 rw[e]
def dD.cut(b:dD):dD:=⟨b.n,Sd.qK b.n b.f,b.x,b.c,b.B,avP b.h⟩
def avQ{n:Nat}{f:Nat->Int}(h:By f):By (Sd.qK n f):=by
 intro j;unfold Sd.qK;split
 ·exact h j
 ·exact⟨uy 0,dC⟩
def f_(G:ew):Nat->Sd.Rest:=λj=>((G.r j).n,(G.r j).f)
def jM(kd src:Int)(eb:jy)(sm:fK)(bad:Bool):Sd.Ev:=⟨kd,src,eb.n,eb.f,sm,bad⟩
structure ql(k:LK)(s:Sd.ai)(F:bx fr (bd k s))(G:ew):Prop where
 ok:ft k s
 most:s.c.p.queue=k.most
 np:Du k
 v1:cC=F.vs
 v2:cC=F.vr
 rb:∀i,i<3->By (G.r i).f
 rn:∀i,i<3->(G.r i).n<=36
def Pe(k:LK)(m:Sd.dU)(s':Sd.ai)(F':bx fr (bd k s'))(gQ:List av)(bN:ij)(G':ew)(a:Nat->Nat):Prop:=ql k s' F' G'/\Acc m.s s' bN gQ fr/\f_ G'=m.r/\G'.a=a/\bN.nS<=10000/\bN.nR<=10000
section
variable{u:an}{k:LK}{G:ew}{eb:jy}{y:YA}{v:aj}{sm:fK}{bad:Bool}{s:Sd.ai}{F:bx fr (bd k s)}{fB:List av}{rw:ij}{kd src:Int}{R:List av}{ms:List Nat}{w0 w:an}
def Pf(u:an)(k:LK)(m:Sd.dU)(ev:List V)(a:Nat->Nat)(eb:jy)(y:YA):VK (LG fr):=λv bl ch=>v=.aD []/\∃(s':Sd.ai)(F':bx fr (bd k s'))(gQ:List av)(bN:ij)(G':ew)(bs:List dD),
 Pe k m s' F' gQ bN G' a/\bl=iX k s' G' ev/\ax ch []=ax [.br u,.core (bj k s' F') gQ,nD bN,nE bN,.mu G',.rd eb,.ou bs,o_ y s' bN] []
def afw{ic:Nat}{G G':ew}(h:G'.a=G.a):wP ic G'=wP ic G:=by unfold wP;rw[h]
def afx{k:LK}{s:Sd.ai}{G G':ew}{ev:List V}(h:G'.a=G.a):iX k s G' ev=iX k s G ev:=by unfold iX;rw[afw h]
theorem F8(h:ft k s)(hS:rw.nS=0)(hR:rw.nR=0):Acc s s rw fB fr:=by
 have e:s=fE s:=by
  obtain⟨c,se,re⟩:=s;have h1:se=[]:=h.e1;have h2:re=[]:=h.e2;subst h1 h2;rfl
 have oS:rw.oS=[]:=by have:=rw.hS.1;rw[hS]at this;exact kX (by simpa using this)
 have oR:rw.oR=[]:=by have:=rw.hR.1;rw[hR]at this;exact kX (by simpa using this)
 refine⟨e,by rw[hS,h.e1];rfl,⟨λ_=>⟨ag,0,0⟩,by rw[oS,h.e1];rfl,λj hj=>?_⟩,by rw[hR,h.e2];rfl,by rw[oR,h.e2];rfl⟩;rw[h.e1]at hj;exact absurd hj (Nat.not_lt_zero _)
def avR{s t:Sd.ai}(h:ft k s):s.glue t=t:=by
 unfold Sd.ai.glue;rw[h.e1,h.e2];rfl
def F9{s:Sd.ai}(h:ft k s):s.bare=s:=by
 obtain⟨c,se,re⟩:=s;have h1:se=[]:=h.e1;have h2:re=[]:=h.e2;subst h1 h2;rfl
def Xw{ev:List V}{sv:Sd.ai}(M:ql k s F G)(ht:y.tm.size=42/\y.tm.getD 5 undef=.pointer (aa ⟨y.a,0,ag⟩))(hS:rw.nS=0)(hR:rw.nR=0)(hg:Sd.Gr 40 s sv)(hok:ft k (fE sv))(hp:sv.c.p=s.c.p):
 O9 k s F (J3 (fr:=fr) k sv λs' r fn F0=>yX y rw s' r λbN=>Dv u k G eb y (Pf u k ⟨sv,f_ G⟩ ev G.a eb y) ev (fE s') F0 (fn++fB) bN):=by
 refine⟨⟨rfl,rfl,by rw[nu],rfl,rfl,M.most⟩,⟨by rw[nu];exact M.ok,M.v1,M.v2⟩,?_⟩;intro s' iJ r fn F0 w1 w2 hf;subst iJ;have q1:s'.aY.length<=40:=by have:=hg.1;rw[M.ok.e2]at this;simpa using this
 have q2:s'.bE.length<=40:=by have:=hg.2;rw[M.ok.e1]at this;simpa using this
 refine aft ht oM oM λbN e1 e2 e3 e4=>?_;have Pd:=(F8 (fB:=fB) (fr:=fr) M.ok hS hR).next hf e1 e2 e3 e4;rw[avR M.ok]at Pd;refine⟨rfl,fE s',F0,fn++fB,bN,G,[],⟨⟨hok,by show s'.c.p.queue=_;rw[hp];exact M.most,M.np,w1,w2,M.rb,M.rn⟩,Pd,rfl,rfl,oM,oM⟩,rfl,rfl⟩
end
section
variable{u:an}{k:LK}{G:ew}{eb:jy}{y:YA}{v:aj}{sm:fK}{bad:Bool}{s:Sd.ai}{F:bx fr (bd k s)}{fB:List av}{rw:ij}{kd src:Int}{R:List av}{ms:List Nat}{w0 w:an}{ae:List Nat}
def CmE(u:an)(k:LK)(m:Sd.dU)(ev:List V)(G:ew)(eb:jy)(y:YA)(fr:aQ->Nat×az)(ae:List Nat)(R:List av)(ms:List Nat)(w0 w':an):Prop:=∃(s':Sd.ai)(F':bx fr (bd k s'))(gQ:List av)(bN:ij)(G':ew),
 Pe k m s' F' gQ bN G' G.a/\St ms w0 (lits ae ae (iX k s' G ev)++ax (nF u k s' F' gQ bN G' eb y) R) w'
def Bc{L:List (bT (LG fr))}{lp:Nat->List V->Option (Lp (LG fr))}(hL:aK du gS L){m:Sd.dU}{ev:List V}(hg:Gl gS ae)(hl:ae.length=7)(S:St ms w0 (lits ae ae (iX k s G ev)++ax (nF u k s F fB rw G eb y) R) w)
 (h:Hd (bz (wR du hY L lp) 60 53 [.raw (.func (.yield y.l) #[] #[]),.ptr 5 0,.ptr 6 0] (iX k s G ev) (nF u k s F fB rw G eb y) (bG 7 (Pf u k m ev G.a eb y)))):
 ba du 53 (aJ ae [.raw (.func (.yield y.l) #[] #[]),.ptr 5 0,.ptr 6 0]).toArray w λ_ w'=>CmE u k m ev G eb y fr ae R ms w0 w':=by
 refine(eO (C:=wR du hY L lp) hL.T hL.Q 60 hg (show ae.length=(iX k s G ev).length from hl) S h.h).mono ?_;rintro v w' ⟨x,aq,b9,ce,rfl,g1,g2,hK⟩;have h7:7<=(ae++aq).length:=by simp;omega
 obtain⟨v2,cj,ci,uh,cK,S2,rfl,s',F',gQ,bN,G',bs,hC,rfl,cz⟩:=ig (n0:=7) g1 h7 g2 hK;have ht:List.take 7 (ae++aq)=ae:=by rw[List.take_append_of_le_length oM,List.take_of_length_le oM]
 rw[ht]at cK S2;have hm:cj=[]:=by
  have:(ae++cj).length=7:=cK;simp at this;exact kX oM
 subst hm;rw[cy]at S2;refine⟨s',F',gQ,bN,G',hC,?_⟩;have ha:G'.a=G.a:=hC.2.2.2.1;rw[afx ha]at S2;rw[fk R ce,cz]at S2;have S3:St ms w0 (lits ae ae (iX k s' G ev)++(cA u++(Bl.B (LG.core (bj k s' F') gQ)++(Bl.B (nD (fr:=fr) bN)++(Bl.B (nE (fr:=fr) bN)++(G'.B++(eb.B++(lA bs++(Bl.B (o_ (fr:=fr) y s' bN)++R))))))))) w':=by
  have e:ax [LG.br u,.core (bj k s' F') gQ,nD bN,nE bN,.mu G',.rd eb,.ou bs,o_ y s' bN] []++R=cA u++(Bl.B (LG.core (bj k s' F') gQ)++(Bl.B (nD (fr:=fr) bN)++(Bl.B (nE (fr:=fr) bN)++(G'.B++(eb.B++(lA bs++(Bl.B (o_ (fr:=fr) y s' bN)++R))))))):=by
   show(cA u++(Bl.B (LG.core (bj k s' F') gQ)++(Bl.B (nD (fr:=fr) bN)++(Bl.B (nE (fr:=fr) bN)++(G'.B++(eb.B++(lA bs++(Bl.B (o_ (fr:=fr) y s' bN)++[]))))))))++R=_;simp only[bZ,fu]
  rw[e]at S2;exact S2
 refine S3.sub ?_;refine mV ?_ _;show List.Sublist (cA u++(Bl.B (LG.core (bj k s' F') gQ)++(Bl.B (nD (fr:=fr) bN)++(Bl.B (nE (fr:=fr) bN)++(G'.B++(eb.B++(Bl.B (o_ (fr:=fr) y s' bN)++R))))))) _;refine mV (mV (mV (mV (mV (mV (kM _ _) _) _) _) _) _) _
end
def avS{be bm ty:Nat}{yv:aj}{src:Int}{v:aj}{sm:fK}{bad wr:Bool}{R:List av}{ms:List Nat}{w0 w:an}(h:src<1\/3<src)
 (S:St ms w0 (⟨be,wr,.cells #[.int .i64 0,.int .i64 src,v,.bool sm.valid,.int .i64 sm.x.a,.int .i64 sm.x.b,.int .i64 sm.x.c,.int .i64 sm.x.d,.bool sm.qG,.bool bad] ty (0,0)⟩::R) w):
 ba du 53 #[yv,.pointer (aa ⟨be,0,ag⟩),.pointer (aa ⟨bm,0,ag⟩)] w λv w'=>Ch [] w w':=by
 have S0:=St.nil [] w;refine jT Tryz.func53 rfl ?_;refine aW (bu ?_);refine aG (.pointer (aa ⟨be,0,ag⟩)) ?_;refine rH S 0 (.int .i64 0) be 0 ?_;refine bh (aZ (kZ (aW (bu ?_))));refine aG (.bool af) ?_;refine gC ?_;refine bh (aZ (uA af (λ_=>?_) (λe=>by cases e)));refine aW (aW (bu ?_));refine aG (.pointer (aa ⟨be,1,ag⟩)) ?_;refine rH S 0 (.int .i64 src) be 1 ?_;refine aG (.bool (decide (src<1))) ?_;refine dI ?_;have fin:∀(a:Act),a.defers=[]->bodyPost du (Tryz.f53) (λe w'=>∃v,e=.returned v/\Ch [] w w') .ret a w:=λa ha=>jD (R:=λ_ w'=>Ch [] w w') (v:=.tuple #[]) ha (iI (fn:=Tryz.f53) [] [] (.tuple #[]) trivial) S0.ch;by_cases h1:src<1
 ·refine Zl 13 (decide (src<1)) af (decide_eq_true h1) ?_;refine Qh ?_;refine Qh ?_;refine Qh ?_;refine aG (.bool af) ?_;refine bh (aZ (uA af (λ_=>jC ?_) (λe=>by cases e)));exact fin _ rfl
 ·refine Zl 13 (decide (src<1)) ah (decide_eq_false h1) ?_;refine aG (.pointer (aa ⟨be,1,ag⟩)) ?_;refine rH S 0 (.int .i64 src) be 1 ?_;refine aG (.bool (decide (src>3))) ?_;refine aG (.bool (decide (src>3))) ?_;refine bh (aZ (uA (decide (src>3)) (λ_=>jC ?_) (λe=>absurd (of_decide_eq_false e) oM)));exact fin _ rfl
section
variable{u:an}{k:LK}{G:ew}{eb:jy}{y:YA}{v:aj}{sm:fK}{bad:Bool}{s:Sd.ai}{F:bx fr (bd k s)}{fB:List av}{rw:ij}{kd src:Int}{R:List av}{ms:List Nat}{w0 w:an}{ae:List Nat}
def avT{G:ew}{i:Nat}{r:dD}:f_ (G.set i r)=Sd.F5 (f_ G) i (r.n,r.f):=by
 funext j;unfold f_ Sd.F5 ew.set;by_cases h:j=i
 ·simp only[if_pos h]
 ·simp only[if_neg h]
def avU(G:ew){i:Nat}(hi:i<3)(r:dD):(G.set i r.cut).B=(G.set i r).B:=by
 match i,hi with
 |0,_=>rfl
 |1,_=>rfl
 |2,_=>rfl
def afy{ev:List V}(M:ql k s F G)(hS:rw.nS=0)(hR:rw.nR=0):Dv u k G eb y (Pf u k ⟨s.bare,f_ G⟩ ev G.a eb y) ev s F fB rw:=by
 refine⟨rfl,s,F,fB,rw,G,[],⟨M,?_,rfl,rfl,oM,oM⟩,rfl,rfl⟩;rw[F9 M.ok];exact F8 M.ok hS hR
def Xx(l:Int)(i:Nat)(hl:1<=l/\l<=3)(hi:i<3)(Xy:l.toNat-1=i)(M:ql k s F G)(he:By eb.f)(X:wT fr (aO aU) k l s G i eb)(hX:X.j=X.L.length):
 Pf u k (Sd.dU.go (aO aU) cn ⟨s,f_ G⟩ (jM 0 l eb sm bad)) (dH 0 l v sm bad) G.a eb y (.aD []) (iX k X.s G (dH 0 l v sm bad)) [.br u,.core (bj k X.s X.F) X.fB,nD X.rw,nE X.rw,.mu (G.set i X.r'),.rd eb,.ou X.bs,o_ (fr:=fr) y X.s X.rw]:=by
 have zr:Sd.dU.go (aO aU) cn ⟨s,f_ G⟩ (jM 0 l eb sm bad)=⟨Sd.ui (aO aU) l (lj G i eb).1 s,Sd.F5 (f_ G) i ((lj G i eb).2.1,Sd.qK (lj G i eb).2.1 (lj G i eb).2.2)⟩:=by
  unfold Sd.dU.go;rw[if_pos (show(jM 0 l eb sm bad).kind=0 from rfl),if_pos (show 1<=(jM 0 l eb sm bad).source/\(jM 0 l eb sm bad).source<=3 from hl)];show(⟨Sd.ui _ l (Sd.takeN cn (f_ G (l.toNat-1)) eb.n eb.f).1 s.bare,Sd.F5 (f_ G) (l.toNat-1) (Sd.takeN cn (f_ G (l.toNat-1)) eb.n eb.f).2⟩:Sd.dU)=_;rw[Xy,F9 M.ok];rfl
 have avV:((X.r'.cut).n,(X.r'.cut).f)=((lj G i eb).2.1,Sd.qK (lj G i eb).2.1 (lj G i eb).2.2):=by
  show(X.r'.n,Sd.qK X.r'.n X.r'.f)=_;rw[X.h1];congr 1;funext j;unfold Sd.qK;split
  ·rename_i hj;exact(X.h2 j (by rw[X.h1];exact hj)).symm
  ·rfl
 have hle:X.r'.n<=36:=by
  rw[X.h1];exact Sd.avO (r:=((G.r i).n,(G.r i).f)) (λj=>(M.rb i hi j).1) (λj=>(he j).1)
 have dl:X.L.length=(lj G i eb).1.length:=X.hL.len;rw[zr];refine⟨rfl,X.s,X.F,X.fB,X.rw,G.set i X.r'.cut,X.bs,⟨⟨X.ok,X.most,M.np,X.v1,X.v2,?_,?_⟩,?_,?_,rfl,?_,?_⟩,?_,?_⟩
 ·intro j hj;show By (if j=i then X.r'.cut else G.r j).f;split
  ·exact avQ X.h3
  ·exact M.rb j hj
 ·intro j hj;show(if j=i then X.r'.cut else G.r j).n<=36;split
  ·exact hle
  ·exact M.rn j hj
 ·have:=X.acc;rw[hX,dl,Le]at this;exact this
 ·rw[avT,avV]
 ·have:=X.b1;have:=X.h4;omega
 ·have:=X.b2;have:=X.h4;omega
 ·exact(afx (G:=G) (G':=G.set i X.r'.cut) rfl).symm
 ·have e:∀(GG Pg:ew),Pg.B=GG.B->ax [LG.br u,.core (bj k X.s X.F) X.fB,nD X.rw,nE X.rw,.mu GG,.rd eb,.ou X.bs,o_ (fr:=fr) y X.s X.rw] []=ax [LG.br u,.core (bj k X.s X.F) X.fB,nD X.rw,nE X.rw,.mu Pg,.rd eb,.ou X.bs,o_ (fr:=fr) y X.s X.rw] []:=by
   intro GG Pg h;show cA u++(_++(_++(_++(GG.B++(eb.B++_)))))=cA u++(_++(_++(_++(Pg.B++(eb.B++_)))));rw[h]
  exact e _ _ (avU G hi X.r')
end
section
variable{u:an}{k:LK}{G:ew}{eb:jy}{y:YA}{v:aj}{sm:fK}{bad:Bool}{s:Sd.ai}{F:bx fr (bd k s)}{fB:List av}{rw:ij}{kd src:Int}{R:List av}{ms:List Nat}{w0 w:an}{ae:List Nat}
def avW{C:aM}{m:Sd.dU}(hk:¬(0<=kd/\kd<=3)):Sd.dU.go C cn m (jM kd src eb sm bad)=⟨m.s.bare,m.r⟩:=by
 unfold Sd.dU.go;rw[if_neg (show¬(jM kd src eb sm bad).kind=0 from λe=>hk ⟨by have e:kd=0:=e;omega,by have e:kd=0:=e;omega⟩),if_neg (show¬(jM kd src eb sm bad).kind=1 from λe=>hk ⟨by have e:kd=1:=e;omega,by have e:kd=1:=e;omega⟩),
  if_neg (show¬(jM kd src eb sm bad).kind=2 from λe=>hk ⟨by have e:kd=2:=e;omega,by have e:kd=2:=e;omega⟩),if_neg (show¬(jM kd src eb sm bad).kind=3 from λe=>hk ⟨by have e:kd=3:=e;omega,by have e:kd=3:=e;omega⟩)]
def avX(ht:Body (fr:=fr) 124 dE)(hg:Gl gS ae)(hl:ae.length=7)(M:ql k s F G)(hy:y.tm.size=42/\y.tm.getD 5 undef=.pointer (aa ⟨y.a,0,ag⟩))(hS:rw.nS=0)(hR:rw.nR=0)
 (hv:kd=0->(1<=src/\src<=3)->v=eb.v) (he:By eb.f) (hn:eb.n<=900) (hx:kx sm.x) (S:St ms w0 (lits ae ae (iX k s G (dH kd src v sm bad))++ax (nF u k s F fB rw G eb y) R) w):
 ba du 53 (aJ ae [.raw (.func (.yield y.l) #[] #[]),.ptr 5 0,.ptr 6 0]).toArray w λ_ w'=>CmE u k (Sd.dU.go (aO aU) cn ⟨s,f_ G⟩ (jM kd src eb sm bad)) (dH kd src v sm bad) G eb y fr ae R ms w0 w':=by
 have hC:=avn ht;have hq:s.c.q.length<=3:=by have:=M.ok.i.q.len;have:=M.ok.i.p.queue;omega
 have dr:∀i,i<3->(G.r i).n+eb.n<=1000:=λi hi=>by have:=M.rn i hi;omega
 by_cases h0:kd=0
 ·subst h0;by_cases fh:1<=src/\src<=3
  ·have h3:src=1\/src=2\/src=3:=oM;rcases h3 with rfl|rfl|rfl
   ·exact Bc (lp:=λi _=>ja 1 (F6 (aO aU) u k 1 s G 0 eb y v sm bad) i) hC hg hl S ⟨by
     rw[avH];exact Xu dC dC (hv rfl fh) (M.rb 0 dC) he (dr 0 dC) hy M.ok M.most M.np M.v1 M.v2 (F8 M.ok hS hR) hS hR λX hX=>Xx 1 0 dC dC rfl M he X hX⟩
   ·exact Bc (lp:=λi _=>ja 1 (F6 (aO aU) u k 2 s G 1 eb y v sm bad) i) hC hg hl S ⟨by
     rw[avI];exact Xu dC dC (hv rfl fh) (M.rb 1 dC) he (dr 1 dC) hy M.ok M.most M.np M.v1 M.v2 (F8 M.ok hS hR) hS hR λX hX=>Xx 2 1 dC dC rfl M he X hX⟩
   ·exact Bc (lp:=λi _=>ja 1 (F6 (aO aU) u k 3 s G 2 eb y v sm bad) i) hC hg hl S ⟨by
     rw[avJ];exact Xu dC dC (hv rfl fh) (M.rb 2 dC) he (dr 2 dC) hy M.ok M.most M.np M.v1 M.v2 (F8 M.ok hS hR) hS hR λX hX=>Xx 3 2 dC dC rfl M he X hX⟩
  ·have zr:Sd.dU.go (aO aU) cn ⟨s,f_ G⟩ (jM 0 src eb sm bad)=⟨s.bare,f_ G⟩:=by
    unfold Sd.dU.go;rw[if_pos (show(jM 0 src eb sm bad).kind=0 from rfl),if_neg (show¬(1<=(jM 0 src eb sm bad).source/\(jM 0 src eb sm bad).source<=3)from fh)]
   rw[zr]
   match ae,hl with
   |[i0,i1,i2,i3,i4,i5,i6],_=>
    have S1:St ms w0 (⟨i5,af,.cells #[.int .i64 0,.int .i64 src,v,.bool sm.valid,.int .i64 sm.x.a,.int .i64 sm.x.b,.int .i64 sm.x.c,.int .i64 sm.x.d,.bool sm.qG,.bool bad] 38 (0,0)⟩::(([aI [i0,i1,i2,i3,i4,i5,i6] i0 (cx k),aI [i0,i1,i2,i3,i4,i5,i6] i1 (g_ k),aI [i0,i1,i2,i3,i4,i5,i6] i2 (fM k 3 s),aI [i0,i1,i2,i3,i4,i5,i6] i3 (fA s),aI [i0,i1,i2,i3,i4,i5,i6] i4 (wP 2 G),aI [i0,i1,i2,i3,i4,i5,i6] i6 ⟨af,⟨33,(0,0)⟩,[.ptr 4 0]⟩])++ax (nF u k s F fB rw G eb y) R)) w:=by
     refine S.perm ?_;show lO ([aI [i0,i1,i2,i3,i4,i5,i6] i0 (cx k),aI [i0,i1,i2,i3,i4,i5,i6] i1 (g_ k),aI [i0,i1,i2,i3,i4,i5,i6] i2 (fM k 3 s),aI [i0,i1,i2,i3,i4,i5,i6] i3 (fA s),aI [i0,i1,i2,i3,i4,i5,i6] i4 (wP 2 G),aI [i0,i1,i2,i3,i4,i5,i6] i5 ⟨af,⟨38,(0,0)⟩,dH 0 src v sm bad⟩,aI [i0,i1,i2,i3,i4,i5,i6] i6 ⟨af,⟨33,(0,0)⟩,[.ptr 4 0]⟩]++ax (nF u k s F fB rw G eb y) R) _;have e5:aI [i0,i1,i2,i3,i4,i5,i6] i5 ⟨af,⟨38,(0,0)⟩,dH 0 src v sm bad⟩=⟨i5,af,.cells #[.int .i64 0,.int .i64 src,v,.bool sm.valid,.int .i64 sm.x.a,.int .i64 sm.x.b,.int .i64 sm.x.c,.int .i64 sm.x.d,.bool sm.qG,.bool bad] 38 (0,0)⟩:=rfl;rw[e5];exact dW λf=>by simp only[ee,j9,lQ];omega
    refine(avS (bm:=i6) (yv:=.func (.yield y.l) #[] #[]) oM S1).mono ?_;intro v' w' cz;refine⟨s,F,fB,rw,G,⟨M,?_,rfl,rfl,oM,oM⟩,S.quiet cz⟩;rw[F9 M.ok];exact F8 M.ok hS hR
 by_cases h1:kd=1
 ·subst h1;refine Bc (lp:=λ_ _=>ag) hC hg hl S ⟨?_⟩;rw[avq,nu];have zr:Sd.dU.go (aO aU) cn ⟨s,f_ G⟩ (jM 1 src eb sm bad)=⟨s.iK (aO aU) sm,f_ G⟩:=by
   show(⟨s.bare.iK _ sm,f_ G⟩:Sd.dU)=_;rw[F9 M.ok]
  rw[zr];exact Xw M hy hS hR ((Sd.avy (aO aU) s sm).le dC) (M.ok.iK hx) (JR (b:=False) (WN M.ok.i))
 by_cases h2:kd=2
 ·subst h2;refine Bc (lp:=λ_ _=>ag) hC hg hl S ⟨?_⟩;rw[avp,nu];have zr:Sd.dU.go (aO aU) cn ⟨s,f_ G⟩ (jM 2 src eb sm bad)=⟨s.lT (aO aU) bad,f_ G⟩:=by
   show(⟨s.bare.lT _ bad,f_ G⟩:Sd.dU)=_;rw[F9 M.ok]
  rw[zr];exact Xw M hy hS hR ((Sd.avB (aO aU) s bad hq).le dC) (M.ok.lT bad) (JR (b:=False) (WO M.ok.i))
 by_cases h3:kd=3
 ·subst h3;refine Bc (lp:=λ_ _=>ag) hC hg hl S ⟨?_⟩;rw[avo,nu];have zr:Sd.dU.go (aO aU) cn ⟨s,f_ G⟩ (jM 3 src eb sm bad)=⟨s.tick (aO aU),f_ G⟩:=by
   show(⟨s.bare.tick _,f_ G⟩:Sd.dU)=_;rw[F9 M.ok]
  rw[zr];exact Xw M hy hS hR (Sd.avD (aO aU) s hq (aeD _).2) M.ok.tick (JR (b:=False) (WT M.ok.i).1)
 rw[avW oM];have Oy:(∃m:Nat,kd=Int.negSucc m)\/∃m:Nat,kd=dS (m+4):=by
  cases kd with
  |negSucc m=>exact .inl ⟨m,rfl⟩
  |ofNat n=>exact .inr ⟨n-4,by
   have a0:¬(n:Int)=0:=h0;have a1:¬(n:Int)=1:=h1;have a2:¬(n:Int)=2:=h2;have a3:¬(n:Int)=3:=h3;congr 1;omega⟩
 rcases Oy with⟨m,rfl⟩|⟨m,rfl⟩
 ·exact Bc (lp:=λ_ _=>ag) hC hg hl S ⟨by rw[avr];exact afy M hS hR⟩
 ·exact Bc (lp:=λ_ _=>ag) hC hg hl S ⟨by rw[avs];exact afy M hS hR⟩
end
end
end Go.Proofs.YtddcipamdggcnaaGreatDoor
namespace Vx
variable{G:Type}[Bl G]
def F_(C:Ctx G)(n:Nat)(K:jJ G):List eZ->jJ G
 |[]=>K
 |A::l=>λfr bl ch=>uT C n A fr bl ch λe fr bl ch=>match e with
  |.normal=>F_ C n K l fr bl ch
  |_=>False
def Ga(T:eZ):List eZ->eZ
 |[]=>T
 |A::l=>.seq A (Ga T l)
def Gb:eZ->eZ
 |.seq a _=>a
 |c=>c
def J9:eZ->eZ
 |.seq _ b=>b
 |c=>c
def Xz{C:Ctx G}(hT:∀f c,C.T f=aa c->Sound C.P C.gl f c)(hQ:nZ C)(n:Nat){K:jJ G}{T:eZ}{Q:dR->Act->an->Prop}{R:List av}{ms:List Nat}{w0:an}:∀(l:List eZ){fr:List V}{bl:List VB}{ch:List G}{ae:List Nat}{w:an},
 Gl C.gl ae->ae.length=bl.length->St ms w0 (lits ae ae bl++ax ch R) w->F_ C n K l fr bl ch->
 (∀fr' aq b9 ce w',(ae++aq).length=b9.length->St ms w0 (lits (ae++aq) (ae++aq) b9++ax ce R) w'->K fr' b9 ce->T.wp C.P Q (act (ae++aq) fr') w')->(Ga T l).wp C.P Q (act ae fr) w
 |[],fr,bl,ch,ae,w,hg,hl,S,h,hk=>by
  have:=hk fr [] bl ch w (by simpa using hl) (by simpa using S) h;rw[cy]at this;exact this
 |A::l,fr,bl,ch,ae,w,hg,hl,S,h,hk=>by
  refine wp_seq (wpIn_wide (n:=0)|>.1 (sound hT hQ n ag A hg hl S h ?_).1);intro e Cd aq jX Si w1 g1 g2 g3;cases e with
  |normal=>
   refine Xz hT hQ n l (hg.app aq) g1 g2 g3 ?_;intro pN cj ci ch2 w2 k1 k2 k3;rw[bZ]at k1 k2⊢;exact hk pN (aq++cj) ci ch2 w2 k1 k2 k3
  |_=>exact g3.elim
end Vx
namespace Go.Proofs.YtddcipamdggcnaaGreatDoor
variable{fr:aQ->Nat×az}
noncomputable def afz:eZ:=match du.funcs[13]?with
 |some fn=>(match fn.body with|some c=>c|none=>.skip)
 |none=>.skip
noncomputable def afA:eZ:=J9 afz
noncomputable def afB:eZ:=J9 afA
noncomputable def XA:eZ:=J9 afB
noncomputable def J_:eZ:=Gb (Gb XA)
noncomputable def Ph:eZ:=J9 (Gb XA)
noncomputable def stepT:eZ:=J9 XA
noncomputable def Ka:List eZ:=[Gb afz,Gb afA,Gb afB]
def XB:LM fr:=λar k s F K=>match ar with
 |[]=>(ft k s/\cC=F.vs/\cC=F.vr)/\K (.agg (rh s cC cC)) s F [] []
 |_=>False
def avY(ht:Body (fr:=fr) 124 dE):zj (fr:=fr) 35 (λ_=>XB (fr:=fr)):=by
 intro u ar k s F Kb a b R0 ms w0 w h0 hq hM S;unfold XB at hM;split at hM
 ·generalize hR:cA u++R0=R at S⊢;have hg:Gl gS (dc a b):=by
   intro g i dz;unfold gS at dz;split at dz
   ·obtain rfl:=cP dz;exact⟨sP,rfl⟩
   ·obtain rfl:=cP dz;exact⟨sP,rfl⟩
   ·cases dz
  have cT:Hd (bz (bU du gS (LC fr (aO aU))) 60 35 [.ptr 2 0] (dG k s) [bj k s F] (vw k s λs' F'=>∃h:s'=s,h▸F'=F)):=⟨by
   rw[auF];exact⟨s,F,by rw[<-hM.1.2.1,<-hM.1.2.2],rfl,rfl,rfl,rfl⟩⟩
  have hok:=atP ht;refine(eO hok.T hok.Q 60 (C:=bU du gS (LC fr (aO aU))) (ae:=dc a b) (bl:=dG k s) (ch:=[bj k s F]) (R:=R) (ms:=ms) (w0:=w0) (w:=w) hg rfl (by
   have e:ax [bj k s F] R=F.B++R:=rfl;rw[e];exact S) cT.h).mono ?_
  rintro v w' ⟨x,aq,b9,ce,rfl,h1,S',s',F',rfl,hb,rfl,rfl,hF⟩;obtain rfl:F'=F:=hF;have qh:b9=dG k s'++b9.drop 4:=by rw[<-hb,jR]
  rw[qh]at S';have e2:lits (dc a b++aq) (dc a b++aq) (dG k s'++b9.drop 4)=lits (dc a b) (dc a b) (dG k s')++lits (dc a b++aq) aq (b9.drop 4):=by
   rw[fw _ _ _ _ rfl];rw[fy (ae:=dc a b) (aq:=aq) (dc a b) (dG k s') rfl]
  rw[e2]at S';refine⟨.agg (rh s' cC cC),s',F',[],[],[],rfl,?_,rfl,hM.2,?_⟩
  ·rw[<-hM.1.2.1,<-hM.1.2.2];simp only[rh,den,ao,cl]
  ·refine S'.sub ?_;show List.Sublist (lits (dc a b) (dc a b) (dG k s')++([]++(F'.B++([]++R)))) _;rw[bZ];refine mV ?_ _;exact kM _ _
 ·exact hM.elim
def Dw(fr:aQ->Nat×az):List (bT (LG fr)):=[⟨35,ah,zi λ_=>XB⟩]
def avZ(ht:Body (fr:=fr) 124 dE):aK du gS (Dw fr):=aK.cons (OT (avY ht)) aK.nil
def wU(u:an)(k:LK)(s:Sd.ai)(F:bx fr (bd k s))(fB:List av)(G:ew)(eb:jy):List (LG fr):=[.br u,.core (bj k s F) fB,.mu G,.rd eb]
def av0:du.funcs[13]?.bind (·.body)=aa (Ga (.seq (Ga Ph [J_]) stepT) Ka):=kR
noncomputable def zv:List V:=match lX du 48 with|some z=>z|none=>[]
def zx(s:Sd.ai)(ev:List V):List V:=[.ptr 4 0,.agg ev,gn,.ptr 5 0,.ptr 6 0,.ptr 7 0,gn,.ptr 4 0,.ptr 4 0,.ptr 4 0,.ptr 2 0,.bool ah,gn,gn,.ptr 4 0,.ptr 4 0,.ptr 4 0,.ptr 2 0,.agg (rh s cC cC),.ptr 4 0,.agg ev,.fn 53 [] [.ptr 9 0,.ptr 8 0]]++pS 20
noncomputable def Pj(k:LK)(s:Sd.ai)(G:ew)(ev:List V):List VB:=jZ k s G++[⟨af,⟨38,(0,0)⟩,ev⟩,⟨af,⟨48,(0,0)⟩,zv⟩,⟨af,⟨48,(0,0)⟩,rh s cC cC⟩,⟨af,⟨33,(0,0)⟩,[.ptr 4 0]⟩,⟨af,⟨38,(0,0)⟩,ev⟩]
section
variable(u:an)(k:LK)(s:Sd.ai)(F:bx fr (bd k s))(fB:List av)(G:ew)(eb:jy)(kd src:Int)(v:aj)(sm:fK)(bad:Bool)(K:jJ (LG fr))
def sgX:Prop:=OZ k s/\(ft k (bV s)/\cC=F.vs/\cC=F.vr)/\K (zx (bV s) (dH kd src v sm bad)) (Pj k (bV s) G (dH kd src v sm bad)) (wU u k (bV s) F ([]++fB) G eb)
def av1:F_ (bU du gS (Dw fr)) 60 (F_ (bU du gS (Dw fr)) 60 K [J_]) Ka ([.ptr 4 0,.agg (dH kd src v sm bad)]++pS 40) (jZ k s G) (wU u k s F fB G eb)=sgX u k s F fB G eb kd src v sm bad K:=kR
end
end Go.Proofs.YtddcipamdggcnaaGreatDoor
namespace Go.Proofs.YtddcipamdggcnaaGreatDoor
section
section
variable{P:aL}{ops:Array aA}{rest:List aA}{o:aA}{a:Act}{w:an}{Q:dR->Act->an->Prop}
def av2{x:bA}{ty:aP}{ad:aF}{v:aj}(hw:gU o (yielded ops a.tmps)=af)(ho:o.op=.load ty x)(hx:a.eval x=.pointer (aa ad))(xN:(loadVar ty ad).run P w=.ok v w)(k:WL P ops Q rest (a.put o.dst v) w):WL P ops Q (o::rest) a w:=
 WL.want hw λK hK=>by
  unfold rz execOp;simp only[ho,hx,qq,jt,bH,de,cD,xN];exact hK _ _ k
def av3{tmps:Array aj}{t ty:Nat}{ad:aF}{v:aj}(h:tmps.getD t undef=.pointer (aa ad))(xN:(loadVar ty ad).run P w=.ok v w):(vN tmps (.cell t ty)).run P w=.ok v w:=by
 simp only[vN,h,bH,asAddr,de,cD,xN]
def av4{x y:bA}{ty:aP}{ad:aF}{v:aj}{w':an}(hw:gU o (yielded ops a.tmps)=af)(ho:o.op=.store ty x y)(hx:a.eval x=.pointer (aa ad))(hy:a.eval y=v)(fR:(storeVar ty ad v).run P w=.ok () w')(k:WL P ops Q rest (a.put o.dst undef) w'):WL P ops Q (o::rest) a w:=
 WL.want hw λK hK=>by
  unfold rz execOp;simp only[ho,hx,hy,Gz,jt,bH,de,cD,fR];exact hK _ _ k
end
section
variable{t4 t5 d:Nat}{cs c0:Array aj}{a:Act}{R:List av}{ms:List Nat}{w0 w:an}{Rp:aj->an->Prop}
def av5(Dx:cs.size=46)(h0:c0.size=46)(mK:cs.toList.all (·.oneCell')=af)(ha4:a.tmps[4]?=aa (.pointer (aa ⟨t4,0,ag⟩)))(ha5:a.tmps[5]?=aa (.pointer (aa ⟨t5,0,ag⟩)))(dr:a.tmps.size=42)(hd:a.defers=[⟨.collected d,#[]⟩])
 (S:St ms w0 (⟨t4,af,.cells c0 48 (0,0)⟩::⟨t5,af,.cells cs 48 (0,0)⟩::⟨d,af,.deferred (aa [])⟩::R) w)
 (hR:∀w',St ms w0 (⟨t4,af,.cells cs 48 (0,0)⟩::⟨t5,af,.cells cs 48 (0,0)⟩::R) w'->Rp (.agg cs) w'):
 stepT.wp du (bodyPostM Qd 0 du (Tryz.f13) (λe w'=>∃v,e=.returned v/\Rp v w')) a w:=by
 have e:stepT=.seq (.region 10 [⟨aa 41,.load 48 (.tmp 5),48,"machine.go:50",#[],ag⟩,⟨ag,.store 48 (.tmp 4) (.tmp 41),0,"machine.go:50",#[⟨0,.data⟩,⟨0,.phase⟩],ag⟩].toArray ah) .ret:=kR;rw[e];have lZ:(du.underlying 48).map j_=aa af:=kR;have hn:(du.info? 48).map (·.size)=aa 46:=kR;have ev:∀(a:Act)(i:Nat)(v:aj),a.tmps[i]?=aa v->a.eval (.tmp i)=v:=λa i v h=>by
  show a.tmps.getD i undef=v;rw[jO,h];rfl
 have av6:=S.at_ 1 _ rfl;have xN:=BG (P:=du) (off:=0) (n:=46) (vs:=cs) av6 lZ hn (by rw[d_,<-Dx];exact Array.extract_size) Dx;refine wp_seq (bu (av2 (x:=.tmp 5) rfl rfl (ev a 5 _ ha5) xN ?_));have b4:(a.put (aa 41) (.agg cs)).tmps[4]?=aa (.pointer (aa ⟨t4,0,ag⟩)):=by
  show(a.tmps.setIfInBounds 41 (.agg cs))[4]?=_;rw[Array.getElem?_setIfInBounds_ne dC];exact ha4
 have b41:(a.put (aa 41) (.agg cs)).tmps[41]?=aa (.agg cs):=by
  show(a.tmps.setIfInBounds 41 (.agg cs))[41]?=_;rw[Array.getElem?_setIfInBounds_self_of_lt oM]
 have O6:=S.at_ 0 _ rfl;have fR:=GH (P:=du) (off:=0) (v:=.agg cs) (vs:=cs.toList) O6 rfl (hn.trans (congrArg aa (by rw[w7,Dx]))) (by rw[w7,Dx,h0];exact cW _) mK;refine av4 (x:=.tmp 4) (y:=.tmp 41) rfl rfl (ev _ 4 _ b4) (ev _ 41 _ b41) fR ?_;have m6:splice c0 0 cs.toList=cs:=by
  unfold splice;apply fP;simp[Dx,h0]
 have S2:=S.step (i:=0) rfl rfl (Ch.setRow w t4 _) (setRow_heap w t4 c0 (splice c0 0 cs.toList) 48 (0,0) O6);rw[m6]at S2⊢;refine bh (aZ (jC ?_));show LeavesInM Qd 0 du _ _ _ a.defers .returning _;rw[hd];have afC:=S2.at_ 2 ⟨d,af,.deferred (aa [])⟩ rfl;have S3:=S2.step (i:=2) (x:=⟨d,af,.deferred (aa [])⟩) rfl rfl (Ch.putObj _ d (.deferred ag)) (World.putObj_heap_same (oH afC));refine⟨(λe=>nomatch e),.inl ⟨d,_,rfl,run_takeDeferred afC,?_⟩⟩;have S4:St ms w0 (⟨t4,af,.cells cs 48 (0,0)⟩::⟨t5,af,.cells cs 48 (0,0)⟩::R) ((w.setRow t4 cs).putObj d (.deferred ag)):=by
  refine S3.sub ?_;exact xn _ (xn _ (List.sublist_cons_self _ _))
 have av7:=BG (P:=du) (off:=0) (n:=46) (vs:=cs) (S4.at_ 0 _ rfl) lZ hn (by rw[d_,<-Dx];exact Array.extract_size) Dx;refine⟨.agg cs,iI (fn:=Tryz.f13) [.cell 4 48] [.agg cs] (.agg cs) ⟨?_,trivial⟩,_,rfl,hR _ S4⟩;refine av3 ?_ av7;rw[jO];exact congrArg (λo:Option aj=>o.getD undef) b4
end
variable{fr:aQ->Nat×az}
def av8:Ph=.block 0 (.rangeFunc (.tmp 21) #[22] hY.1 hY.2):=kR
def XC:ij:=⟨[],ag,0,0,[],pF 2 _,[],ag,0,0,[],pF 6 _⟩
section
variable{u:an}{k:LK}{G:ew}{eb:jy}{v:aj}{sm:fK}{bad:Bool}{s:Sd.ai}{F:bx fr (bd k s)}{fB:List av}{kd src:Int}{R:List av}{ms:List Nat}{w0 w:an}{i0 i1 i2 i3 i4 i5 i6 i7 i8 i9:Nat}
def av9(ht:Body (fr:=fr) 124 dE)(hg:Gl gS [i0,i1,i2,i3,i4])(M:ql k s F G)(hv:kd=0->(1<=src/\src<=3)->v=eb.v)(he:By eb.f)(hn:eb.n<=900)(hx:kx sm.x){Q:dR->Act->an->Prop}
 (S:St ms w0 (lits [i0,i1,i2,i3,i4,i5,i6,i7,i8,i9] [i0,i1,i2,i3,i4,i5,i6,i7,i8,i9] (Pj k s G (dH kd src v sm bad))++ax (wU u k s F fB G eb) R) w)
 (hQ:∀(s':Sd.ai)(F':bx fr (bd k s'))(gQ:List av)(bN:ij)(G':ew)(d:Nat)(w':an),Pe k (Sd.dU.go (aO aU) cn ⟨s,f_ G⟩ (jM kd src eb sm bad)) s' F' gQ bN G' G.a->
  St ms w0 (⟨i6,af,.cells (ao [] zv).toArray 48 (0,0)⟩::⟨i7,af,.cells (ao [] (zq s' (.raw (.slice bN.xS bN.nS bN.cS)) (.raw (.slice bN.xR bN.nR bN.cR)))).toArray 48 (0,0)⟩::⟨d,af,.deferred (aa [])⟩::
   (lits [i0,i1,i2,i3,i4] [i0,i1,i2,i3,i4] (jZ k s' G)++ax [LG.br u,.core (bj k s' F') gQ,nD bN,nE bN,.mu G',.rd eb] R)) w'->
  Q .normal {act [i0,i1,i2,i3,i4,i5,i6,i7,i8,i9] (zx s (dH kd src v sm bad))with defers:=[⟨.collected d,#[]⟩]} w'):
 Ph.wp du Q (act [i0,i1,i2,i3,i4,i5,i6,i7,i8,i9] (zx s (dH kd src v sm bad))) w:=by
 rw[av8];refine kZ (wpIn_wide (n:=0)|>.1 (wpIn_rangeFunc λfn _=>?_))
 let ae:=[i0,i1,i2,i3,i4,i5,i6,i7,i8,i9]
 let y:YA:=⟨fn,w.heap.size+1,w.heap.size,i7,(aJ ae (zx s (dH kd src v sm bad))).toArray⟩
 have afD:∀w2:an,w2=((w.alloc (.deferred (aa []))).alloc (.loop {state:=.ready,pending:=ag,fn,tmps:=y.tm,params:=#[22],assign:=hY.1,body:=hY.2,defers:=w.heap.size}))->
  St ms w0 (lits [i0,i1,i2,i3,i4,i9,i8] [i0,i1,i2,i3,i4,i9,i8] (iX k s G (dH kd src v sm bad))++ax (nF u k s F fB XC G eb y) (⟨i6,af,.cells (ao [] zv).toArray 48 (0,0)⟩::R)) w2:=by
  rintro w2 rfl;have S1:=S.new (Ch.alloc [] w (.deferred (aa []))) (cW _) (oB w _);have S2:=S1.new (Ch.alloc [] (w.alloc (.deferred (aa []))) (.loop {state:=.ready,pending:=ag,fn,tmps:=y.tm,params:=#[22],assign:=hY.1,body:=hY.2,defers:=w.heap.size})) (cW _) (oB _ _);rw[World.size_alloc]at S2;have hA:lits [i0,i1,i2,i3,i4,i5,i6,i7,i8,i9] [i0,i1,i2,i3,i4,i5,i6,i7,i8,i9] (Pj k s G (dH kd src v sm bad))=lits [i0,i1,i2,i3,i4] [i0,i1,i2,i3,i4] (jZ k s G)++[⟨i5,af,.cells (ao [] (dH kd src v sm bad)).toArray 38 (0,0)⟩,⟨i6,af,.cells (ao [] zv).toArray 48 (0,0)⟩,⟨i7,af,.cells (ao [] (rh s cC cC)).toArray 48 (0,0)⟩,⟨i8,af,.cells #[.pointer (aa ⟨i4,0,ag⟩)] 33 (0,0)⟩,⟨i9,af,.cells (ao [] (dH kd src v sm bad)).toArray 38 (0,0)⟩]:=kR;have hB:lits [i0,i1,i2,i3,i4,i9,i8] [i0,i1,i2,i3,i4,i9,i8] (iX k s G (dH kd src v sm bad))=lits [i0,i1,i2,i3,i4] [i0,i1,i2,i3,i4] (jZ k s G)++[⟨i9,af,.cells (ao [] (dH kd src v sm bad)).toArray 38 (0,0)⟩,⟨i8,af,.cells #[.pointer (aa ⟨i4,0,ag⟩)] 33 (0,0)⟩]:=kR;rw[hA]at S2;rw[hB];have e1:ax (wU u k s F fB G eb) R=cA u++(((bj k s F).F.B++fB)++(G.B++(eb.B++R))):=rfl;have e2:ax (nF u k s F fB XC G eb y) (⟨i6,af,.cells (ao [] zv).toArray 48 (0,0)⟩::R)=cA u++(((bj k s F).F.B++fB)++(G.B++(eb.B++([⟨w.heap.size+1,af,.loop {state:=.ready,pending:=ag,fn,tmps:=y.tm,params:=#[22],assign:=hY.1,body:=hY.2,defers:=w.heap.size}⟩,⟨w.heap.size,af,.deferred (aa [])⟩,⟨i7,af,.cells (ao [] (rh s cC cC)).toArray 48 (0,0)⟩]++(⟨i6,af,.cells (ao [] zv).toArray 48 (0,0)⟩::R))))):=rfl;rw[e1]at S2;rw[e2];have S3:=S2.perm (bs':=⟨i5,af,.cells (ao [] (dH kd src v sm bad)).toArray 38 (0,0)⟩::((lits [i0,i1,i2,i3,i4] [i0,i1,i2,i3,i4] (jZ k s G)++[⟨i9,af,.cells (ao [] (dH kd src v sm bad)).toArray 38 (0,0)⟩,⟨i8,af,.cells #[.pointer (aa ⟨i4,0,ag⟩)] 33 (0,0)⟩])++(cA u++(((bj k s F).F.B++fB)++(G.B++(eb.B++([⟨w.heap.size+1,af,.loop {state:=.ready,pending:=ag,fn,tmps:=y.tm,params:=#[22],assign:=hY.1,body:=hY.2,defers:=w.heap.size}⟩,⟨w.heap.size,af,.deferred (aa [])⟩,⟨i7,af,.cells (ao [] (rh s cC cC)).toArray 48 (0,0)⟩]++(⟨i6,af,.cells (ao [] zv).toArray 48 (0,0)⟩::R)))))))) (dW λf=>by simp only[ee,j9,lQ];omega);exact S3.sub (List.sublist_cons_self _ _)
 have Ar:(act [i0,i1,i2,i3,i4,i5,i6,i7,i8,i9] (zx s (dH kd src v sm bad))).eval (.tmp 21)=.func (.func 53) #[] #[.pointer (aa ⟨i9,0,ag⟩),.pointer (aa ⟨i8,0,ag⟩)]:=by
  rw[aa0];rfl
 have hg7:Gl gS [i0,i1,i2,i3,i4,i9,i8]:=by
  intro g i dz;have h:=hg g i dz;unfold gS at dz;split at dz
  ·obtain rfl:=cP dz;exact⟨sP,h.2⟩
  ·obtain rfl:=cP dz;exact⟨sP,h.2⟩
  ·cases dz
 have hy:y.tm.size=42/\y.tm.getD 5 undef=.pointer (aa ⟨y.a,0,ag⟩):=⟨by simp[y,rQ,zx,pS],by
  have:=z7 (ae:=ae) (zx s (dH kd src v sm bad)) 5;exact this⟩
 let W:an:=((w.alloc (.deferred (aa []))).alloc (.loop {state:=.ready,pending:=ag,fn,tmps:=y.tm,params:=#[22],assign:=hY.1,body:=hY.2,defers:=w.heap.size}))
 refine⟨w.heap.size+1,[⟨.collected w.heap.size,#[]⟩],W,⟨.fn (.func 53) #[.pointer (aa ⟨i9,0,ag⟩),.pointer (aa ⟨i8,0,ag⟩)],#[]++#[.func (.yield (w.heap.size+1)) #[] #[]]⟩,W,53,(#[]++#[.func (.yield (w.heap.size+1)) #[] #[]])++#[.pointer (aa ⟨i9,0,ag⟩),.pointer (aa ⟨i8,0,ag⟩)],W,run_enterLoop_outer fn y.tm #[22] hY.1 hY.2,?_,λ_ _=>trivial,Rz kR _ _,(λe=>nomatch e),callsIn_wide.2 ?_⟩
 ·simp only[resolve,rangeCall,Ar,ahb,de];congr 2;rw[Array.map_singleton];rfl
 ·have hc:=avX (y:=y) (rw:=XC) ht hg7 rfl M hy rfl rfl hv he hn hx (afD W rfl);have cN:(aJ [i0,i1,i2,i3,i4,i9,i8] [.raw (.func (.yield y.l) #[] #[]),.ptr 5 0,.ptr 6 0]).toArray=(#[]++#[.func (.yield (w.heap.size+1)) #[] #[]])++#[.pointer (aa ⟨i9,0,ag⟩),.pointer (aa ⟨i8,0,ag⟩)]:=by
   simp only[aJ,den];rfl
  rw[cN]at hc;unfold ba at hc;refine Calls.mono hc ?_;clear hc afD;rintro e w' ⟨v',rfl,s',F',gQ,bN,G',hC,S'⟩;have ha:G'.a=G.a:=hC.2.2.2.1;have hB:lits [i0,i1,i2,i3,i4,i9,i8] [i0,i1,i2,i3,i4,i9,i8] (iX k s' G (dH kd src v sm bad))=lits [i0,i1,i2,i3,i4] [i0,i1,i2,i3,i4] (jZ k s' G)++[⟨i9,af,.cells (ao [] (dH kd src v sm bad)).toArray 38 (0,0)⟩,⟨i8,af,.cells #[.pointer (aa ⟨i4,0,ag⟩)] 33 (0,0)⟩]:=kR;rw[hB]at S'
  let lo:Obj:=.loop {state:=.ready,pending:=ag,fn,tmps:=y.tm,params:=#[22],assign:=hY.1,body:=hY.2,defers:=w.heap.size}
  let cs:Obj:=.cells (ao [] (zq s' (.raw (.slice bN.xS bN.nS bN.cS)) (.raw (.slice bN.xR bN.nR bN.cR)))).toArray 48 (0,0)
  let e6:av:=⟨i6,af,.cells (ao [] zv).toArray 48 (0,0)⟩
  have e2:ax (nF u k s' F' gQ bN G' eb y) (e6::R)=cA u++(((bj k s' F').F.B++gQ)++(bN.bS++(bN.bR++(G'.B++(eb.B++([⟨w.heap.size+1,af,lo⟩,⟨w.heap.size,af,.deferred (aa [])⟩,⟨i7,af,cs⟩]++(e6::R))))))):=rfl;have S1:St ms w0 ((lits [i0,i1,i2,i3,i4] [i0,i1,i2,i3,i4] (jZ k s' G)++[⟨i9,af,.cells (ao [] (dH kd src v sm bad)).toArray 38 (0,0)⟩,⟨i8,af,.cells #[.pointer (aa ⟨i4,0,ag⟩)] 33 (0,0)⟩])++(cA u++(((bj k s' F').F.B++gQ)++(bN.bS++(bN.bR++(G'.B++(eb.B++([⟨w.heap.size+1,af,lo⟩,⟨w.heap.size,af,.deferred (aa [])⟩,⟨i7,af,cs⟩]++(e6::R))))))))) w':=by rw[<-e2];exact S'
  have S2:=S1.perm (bs':=⟨w.heap.size+1,af,lo⟩::⟨i9,af,.cells (ao [] (dH kd src v sm bad)).toArray 38 (0,0)⟩::⟨i8,af,.cells #[.pointer (aa ⟨i4,0,ag⟩)] 33 (0,0)⟩::e6::⟨i7,af,cs⟩::⟨w.heap.size,af,.deferred (aa [])⟩::(lits [i0,i1,i2,i3,i4] [i0,i1,i2,i3,i4] (jZ k s' G)++(cA u++(((bj k s' F').F.B++gQ)++(bN.bS++(bN.bR++(G'.B++(eb.B++R)))))))) (dW λf=>by simp only[ee,j9,lQ];omega);have aV:w'.heap[w.heap.size+1]?=aa lo:=S2.at_ 0 ⟨w.heap.size+1,af,lo⟩ rfl;have S3:=S2.step (i:=0) (x:=⟨w.heap.size+1,af,lo⟩) rfl rfl (Ch.putObj w' (w.heap.size+1) (.loop {state:=.exhausted,pending:=ag,fn,tmps:=y.tm,params:=#[22],assign:=hY.1,body:=hY.2,defers:=w.heap.size})) (World.putObj_heap_same (oH aV));refine⟨ag,_,run_endLoop aV sP,?_⟩;show Q .normal _ _;refine hQ s' F' gQ bN G' w.heap.size _ hC ?_;have S4:=S3.sub (bs':=e6::⟨i7,af,cs⟩::⟨w.heap.size,af,.deferred (aa [])⟩::(lits [i0,i1,i2,i3,i4] [i0,i1,i2,i3,i4] (jZ k s' G)++(cA u++(((bj k s' F').F.B++gQ)++(bN.bS++(bN.bR++(G'.B++(eb.B++R)))))))) (Qf _ (Qf _ (Qf _ (List.Sublist.refl _))));exact S4
end
section
variable{u:an}{k:LK}{G:ew}{eb:jy}{v:aj}{sm:fK}{bad:Bool}{s:Sd.ai}{F:bx fr (bd k s)}{fB:List av}{kd src:Int}{R:List av}{ms:List Nat}{w0 w:an}{i0 i1 i2 i3 i4:Nat}
def Kc(s':Sd.ai)(bN:ij):Array aj:=(ao [] (zq s' (.raw (.slice bN.xS bN.nS bN.cS)) (.raw (.slice bN.xR bN.nR bN.cR)))).toArray
def av_(s':Sd.ai)(bN:ij):(Kc s' bN).size=46:=by
 unfold Kc zq;simp[ao,cl,den]
def awa(s':Sd.ai)(bN:ij):(Kc s' bN).toList.all (·.oneCell')=af:=kR
def awb:(ao [] zv).toArray.size=46:=kR
def awc(n:Nat)(ae:List Nat)(ak:List V):({tmps:=(aJ ae ak).toArray++zL (n-(aJ ae ak).toArray.size) undef,defers:=[]}:Act)=act ae (ak++pS (n-ak.length)):=by
 simp only[act,R7,R6];congr 1;apply fP;simp[rQ]
def awd(ht:Body (fr:=fr) 124 dE)(hg:Gl gS [i0,i1,i2,i3,i4])(M:ql k s F G)(hv:kd=0->(1<=src/\src<=3)->v=eb.v)(he:By eb.f)(hn:eb.n<=900)(hx:kx sm.x)
 (S:St ms w0 (lits [i0,i1,i2,i3,i4] [i0,i1,i2,i3,i4] (jZ k s G)++ax (wU u k s F fB G eb) R) w):
 ba du 13 (aJ [i0,i1,i2,i3,i4] [.ptr 4 0,.agg (dH kd src v sm bad)]).toArray w λvv w'=>∃(s':Sd.ai)(F':bx fr (bd k s'))(gQ:List av)(bN:ij)(G':ew),
  Pe k (Sd.dU.go (aO aU) cn ⟨s,f_ G⟩ (jM kd src eb sm bad)) s' F' gQ bN G' G.a/\vv=.agg (Kc s' bN)/\
  St ms w0 (lits [i0,i1,i2,i3,i4] [i0,i1,i2,i3,i4] (jZ k s' G)++ax [LG.br u,.core (bj k s' F') gQ,nD bN,nE bN,.mu G',.rd eb] R) w':=by
 have hf:=Tryz.func13;have hb:(Tryz.f13).body=aa (Ga (.seq (Ga Ph [J_]) stepT) Ka):=by
  have:=av0;rw[hf]at this;exact this
 refine callsIn_wide (n:=0)|>.1 (callsIn_of_wp_marks hf hb trivial (wpIn_wide (n:=0)|>.2 ?_));have hnt:(Tryz.f13).ntmps=42:=kR;have e:=awc 42 [i0,i1,i2,i3,i4] [.ptr 4 0,.agg (dH kd src v sm bad)];rw[hnt];rw[e];have hok:=avZ (fr:=fr) ht
 let K2:jJ (LG fr):=λfr' b9 ce=>fr'=zx (bV s) (dH kd src v sm bad)/\b9=Pj k (bV s) G (dH kd src v sm bad)/\ce=wU u k (bV s) F ([]++fB) G eb
 have cT:Hd (F_ (bU du gS (Dw fr)) 60 (F_ (bU du gS (Dw fr)) 60 K2 [J_]) Ka ([.ptr 4 0,.agg (dH kd src v sm bad)]++pS 40) (jZ k s G) (wU u k s F fB G eb)):=⟨by
  rw[av1];exact⟨⟨rfl,rfl,by rw[nu],rfl,rfl,M.most⟩,⟨by rw[nu];exact M.ok,M.v1,M.v2⟩,rfl,rfl,rfl⟩⟩
 refine Xz (C:=bU du gS (Dw fr)) hok.T hok.Q 60 Ka hg rfl S cT.h ?_;intro Cd aq jX Si w1 g1 g2 g3;refine wp_seq (Xz (C:=bU du gS (Dw fr)) hok.T hok.Q 60 [J_] (hg.app aq) g1 g2 g3 ?_);rintro pN cj ci ch2 w2 k1 k2 ⟨rfl,rfl,rfl⟩;rw[bZ]at k1 k2⊢;generalize aq++cj=mm at k1 k2⊢;have Hz:mm.length=5:=by
  have:([i0,i1,i2,i3,i4]++mm).length=10:=k1;simp at this;omega
 match mm,Hz with
 |[i5,i6,i7,i8,i9],_=>
  have cz:ax (wU u k (bV s) F ([]++fB) G eb) R=ax (wU u k s F fB G eb) R:=rfl;rw[cz,nu]at k2;rw[nu];refine av9 (F:=F) (fB:=fB) ht hg M hv he hn hx k2 ?_;intro s' F' gQ bN G' d w' hC S';refine av5 (t4:=i6) (t5:=i7) (d:=d) (av_ s' bN) awb (awa s' bN) rfl rfl (by simp[act,rQ,zx,pS]) rfl S' ?_;intro w3 S3;refine⟨s',F',gQ,bN,G',hC,rfl,S3.sub (Qf _ (Qf _ (List.Sublist.refl _)))⟩
end
def wV{ae:List Nat}:∀(is:List Nat)(bl:List VB)(_:is.length=bl.length)(i:Nat)(b:VB),bl[i]?=aa b->aI ae (is.getD i 0) b∈lits ae is bl
 |[],[],_,i,b,h=>by simp at h
 |j::is,c::bl,hl,0,b,h=>by
  obtain rfl:c=b:=by simpa using h
  exact xk
 |j::is,c::bl,hl,i+1,b,h=>qA _ (wV is bl (by simpa using hl) i b (by simpa using h))
 |[],_::_,h,_,_,_=>by simp at h
 |_::_,[],h,_,_,_=>by simp at h
def machs:List VB->Nat
 |[]=>0
 |b::l=>match b.c with
  |[.raw _,.int _ _,.raw _,.raw _,.raw _]=>machs l+1
  |_=>machs l
def XD(bl:List VB)(i:Nat):Nat:=machs (bl.drop (i+1))
def Dy:List (LG fr)->Nat->Option (List (LG fr)×eY fr×List (LG fr))
 |[],_=>ag
 |g::l,n=>match g,n with
  |.gu m,0=>aa ([],m,l)
  |.gu m,n+1=>(match Dy l n with|some (p,x,q)=>aa (.gu m::p,x,q)|none=>ag)
  |g,n=>(match Dy l n with|some (p,x,q)=>aa (g::p,x,q)|none=>ag)
def afE:∀{ch:List (LG fr)}{n:Nat}{p:List (LG fr)}{m:eY fr}{q:List (LG fr)},Dy ch n=aa (p,m,q)->ch=p++.gu m::q
 |[],_,_,_,_,h=>by simp[Dy]at h
 |g::l,n,p,m,q,h=>by
  have step:∀{k:Nat}{g:LG fr},(match Dy l k with|some (p,x,q)=>aa (g::p,x,q)|none=>ag)=aa (p,m,q)->g::l=p++.gu m::q:=by
   intro k g h;split at h
   ·rename_i p' x' q' h';simp only[a_,bI]at h;obtain⟨rfl,rfl,rfl⟩:=h;rw[afE h'];rfl
   ·cases h
  unfold Dy at h;split at h
  ·simp only[a_,bI]at h;obtain⟨rfl,rfl,rfl⟩:=h;rfl
  ·exact step h
  ·exact step h
abbrev MKb(fr:aQ->Nat×az):=V->eY fr->List VB->Prop
abbrev MM(fr:aQ->Nat×az):=List V->eY fr->List (LG fr)->MKb fr->Prop
def Gc(M:MM fr):dm (LG fr):=λak bl ch K=>match ak,ch with
 |.ptr im 0::ar,.br u::rest=>(match Dy rest (XD bl im)with
  |some (p,m,q)=>cond (bY bl.length bl) ((bl[0]?=aa (cx m.k)/\bl[1]?=aa (g_ m.k)/\bl[im]?=aa m.R)/\M ar m (p++q) λvv m' ex=>K (iV bl.length vv) (bl++ex) (.br u::(p++.gu m'::q))) False
  |none=>False)
 |_,_=>False
def nG(m:eY fr)(im:Nat):List Nat:=[0,1,m.ic,m.it,im]
def eY.wW(m:eY fr)(im:Nat):List av:=lits (nG m im) (nG m im) (jZ m.k m.s m.G)
def XE(f:fG)(M:MM fr):Prop:=∀(u:an)(ae:List Nat)(ar:List V)(m:eY fr)(rest:List (LG fr))(Kb:MKb fr)(im:Nat)(R:List av)(ms:List Nat)(w0 w:an),M ar m rest Kb->
 St ms w0 (m.wW im++(m.F.B++(m.fB++(m.G.B++(cA u++ax rest R))))) w->
 ba du f (.pointer (aa ⟨im,0,ag⟩)::aJ ae ar).toArray w λv w'=>∃(vv:V)(m':eY fr)(ex:List VB)(xs:List Nat),xs.length=ex.length/\den xs vv=v/\bY 0 ex=af/\Kb vv m' ex/\
  St ms w0 (m'.wW im++(lits xs xs ex++(m'.F.B++(m'.fB++(m'.G.B++(cA u++ax rest R)))))) w'
def eY.afF(m:eY fr)(im:Nat)(ae:List Nat):m.wW im=[aI ae 0 (cx m.k),aI ae 1 (g_ m.k)]++(m.cB++[aI ae im m.R]):=by
 unfold eY.wW;simp only[jZ,nG,lits];rw[jL (ids':=ae) (CU m.k),jL (ids':=ae) (Vj m.k),jL (ids':=ae) (b:=fA m.s) (yQ m.s)];have e1:aI [0,1,m.ic,m.it,im] m.ic (fM m.k 3 m.s)=aI [0,1,m.ic,m.it] m.ic (fM m.k 3 m.s):=by
  rw[OR (a:=m.ic) (b:=m.it) _ rfl]
 have e2:aI [0,1,m.ic,m.it,im] im (wP 2 m.G)=aI ae im m.R:=by
  simp only[aI,wP,eY.R,ao,cl,den];rfl
 have e3:m.cB=[aI [0,1,m.ic,m.it] m.ic (fM m.k 3 m.s),aI ae m.it (fA m.s)]:=by
  unfold eY.cB;simp only[dG,lits,List.drop];rw[jL (ids':=ae) (b:=fA m.s) (yQ m.s)]
 rw[e1,e2,e3];rfl
def afG{f:Nat}{M:MM fr}(h:XE f M):Sound du gS f (Gc M):=by
 intro ak ae bl ch R ms w0 w K hg hl S hc;unfold Gc at hc;split at hc
 ·rename_i im ar u rest;split at hc
  ·rename_i p m q hm;obtain rfl:=afE hm;cases hq:bY bl.length bl with
   |false=>rw[hq]at hc;exact hc.elim
   |true=>
    rw[hq]at hc;obtain⟨⟨e0,e1,e2⟩,hM⟩:=hc;have g0:=(hg 0 0 rfl).2;have g1:=(hg 1 1 rfl).2;have m0:=wV (ae:=ae) ae bl hl 0 _ e0;have m1:=wV (ae:=ae) ae bl hl 1 _ e1;have m2:=wV (ae:=ae) ae bl hl im _ e2;rw[g0]at m0;rw[g1]at m1;have S1:=((S.dup (kB _ m2) rfl).dup (qA _ (kB _ m1)) rfl).dup (qA _ (qA _ (kB _ m0))) rfl;have S2:=S1.perm (bs':=m.wW (ae.getD im 0)++(m.F.B++(m.fB++(m.G.B++(cA u++ax (p++q) (lits ae ae bl++R)))))) (by
     rw[m.afF _ ae,k7,fk (ax q (lits ae ae bl++R)) p,fk (lits ae ae bl++R) q];show lO (_::_::_::(lits ae ae bl++(cA u++ax (p++.gu m::q) R))) _;rw[k7,fk (ax (.gu m::q) R) p];show lO (_::_::_::(lits ae ae bl++(cA u++(ax p []++((m.cB++(m.F.B++(m.fB++m.G.B)))++ax q R))))) _;rw[fk R q];exact dW λf=>by simp only[ee,j9,lQ];omega)
    have ve:=h u ae ar m (p++q) _ (ae.getD im 0) _ ms w0 w hM S2;have cN:aJ ae (.ptr im 0::ar)=.pointer (aa ⟨ae.getD im 0,0,ag⟩)::aJ ae ar:=by simp only[aJ,den]
    rw[cN];refine ve.mono ?_;rintro v w' ⟨vv,m',ex,xs,fV,JO,vt,hK,S3⟩;refine⟨iV bl.length vv,xs,bl++ex,_,?_,by simp[hl,fV],?_,hK⟩
    ·rw[<-hl,Dp];exact JO.symm
    ·rw[m'.afF _ ae]at S3;have S4:St ms w0 ([aI ae 0 (cx m'.k),aI ae 1 (g_ m'.k),aI ae (ae.getD im 0) m'.R]++((lits ae ae bl++lits xs xs ex)++(cA u++ax (p++.gu m'::q) R))) w':=by
      refine S3.perm ?_;rw[k7,fk (ax q (lits ae ae bl++R)) p,fk (lits ae ae bl++R) q,k7,fk (ax (.gu m'::q) R) p];show lO _ (_++((lits ae ae bl++lits xs xs ex)++(cA u++(ax p []++((m'.cB++(m'.F.B++(m'.fB++m'.G.B)))++ax q R)))));rw[fk R q];exact dW λf=>by simp only[ee,j9,lQ];omega
     rw[fw _ _ _ _ hl,fy _ _ (by rw[hl];exact hq),Dq (ids':=xs) xs ex vt];exact S4.sub (kM _ _)
  ·exact hc.elim
 ·exact hc.elim
def row8_rd{T n:Nat}{f:Nat->Int}{x:Option aF}{c:Nat}{B:List av}(h:ff T n f x c B){w:an}(hw:∀y∈B,w.heap[y.id]?=aa y.obj):jx w x n c f:=by
 refine⟨h.1,?_,?_⟩
 ·intro e;rcases h.2 with⟨_,h1,h2,_⟩|⟨b,h1,_⟩
  ·exact⟨h1,h2⟩
  ·rw[e]at h1;cases h1
 ·intro y e j hj;rcases h.2 with⟨h1,_⟩|⟨b,h1,h2⟩
  ·rw[e]at h1;cases h1
  ·rw[e]at h1;obtain rfl:=cP h1;have aV:=hw _ (by rw[h2];exact List.mem_singleton_self _);rw[iY,cell_of aV,d_];unfold bM;rw[j7,gB (by rw[gD];exact hj)];exact rO f hj
def awe{T n:Nat}{f:Nat->Int}{x:Option aF}{c:Nat}{B:List av}(h:ff T n f x c B)(hn:n<=1000000){w:an}(hw:∀y∈B,w.heap[y.id]?=aa y.obj):ei w x n c f:=⟨hn,row8_rd h hw⟩
def jz.red(b:jz):jy:=⟨b.n,b.f,b.x,b.c,b.B,λw h=>by
 rcases b.h with⟨h1,h2,h3,h4⟩|h1
 ·exact⟨b.le,h2,λe=>⟨h1,h3 e⟩,λx e j hj=>absurd hj oM⟩
 ·exact awe h1 b.le h⟩
def awf{bs:List jz}{b:jz}(h:b∈bs):∃Q,(ni bs).Perm (b.B++Q):=by
 induction bs with
 |nil=>cases h
 |cons a l ih=>
  rcases cG.1 h with rfl|h
  ·exact⟨ni l,zM _⟩
  ·obtain⟨Q,hQ⟩:=ih h;refine⟨a.B++Q,?_⟩;show(a.B++ni l).Perm _;exact(j8 _ hQ).trans (dW λf=>by simp only[ee];omega)
def jy.nil:jy:=⟨0,λ_=>0,ag,0,[],λw h=>⟨dC,cW _,λ_=>⟨rfl,rfl⟩,λx e=>nomatch e⟩⟩
structure afH(m m':eY fr)(t:Sd.ai)(rr:Nat->Sd.Rest)(r:TR):Prop where
 k:m'.k=m.k
 ic:m'.ic=m.ic
 it:m'.it=m.it
 a:m'.G.a=m.G.a
 s:m'.s=fE t
 ok:ql m'.k m'.s m'.F m'.G
 rs:f_ m'.G=rr
 f:vz fr t.bE r.fv m'.fB
 nS:t.bE.length<=10000
 nR:t.aY.length<=10000
def afH.R{m m':eY fr}{t:Sd.ai}{rr:Nat->Sd.Rest}{r:TR}(h:afH m m' t rr r):m'.R=m.R:=by
 unfold eY.R;rw[h.ic,h.a]
def EvB(kd src:Int)(vv:V)(rest:List (LG fr))(eb:jy):Prop:=(kd=0->(1<=src/\src<=3)->vv=.raw eb.v)/\(eb.B=[]\/∃bs,LG.hJ bs∈rest/\∃b∈bs,eb.B=b.B)/\By eb.f/\eb.n<=900
def Pk:V->Bool
 |.raw _=>af
 |.sl _ _ _ _=>af
 |_=>ah
section
variable{u:an}
def awg{ae js:List Nat}{kd src:Int}{vv:V}{sm:fK}{bad:Bool}(h:Pk vv=af)(im:Nat):(aJ (js++[im]) [.ptr js.length 0,.agg (dH kd src (den ae vv) sm bad)]).toArray=(.pointer (aa ⟨im,0,ag⟩)::aJ ae [.agg [.int .i64 kd,.int .i64 src,vv,.bool sm.valid,.int .i64 sm.x.a,.int .i64 sm.x.b,.int .i64 sm.x.c,.int .i64 sm.x.d,.bool sm.qG,.bool bad]]).toArray:=by
 have e2:(js++[im]).getD js.length 0=im:=by simp[gh]
 unfold Pk at h;split at h
 ·simp only[aJ,den,dH,ao,cl,e2]
 ·simp only[aJ,den,dH,ao,cl,e2]
 ·cases h
end
def Kd(P:aL):(bA->V)->Op->List VB->List (LG fr)->VK (LG fr)->Prop:=λe op bl ch K=>match op with
 |.call c=>(match c.callee,c.args.toList,c.argTypes.toList with
  |.builtin .append,[s,xs],[t,tx]=>(match P.underlying t,P.underlying tx with
   |some (.slice 5),aa (.slice _)=>(match e s,e xs,ch with
    |.sl i 0 0 0,.raw (.slice a m c),.br u::rest=>cond (bY bl.length bl) ((jx u a m c (dP u a)/\m<=1000000)/\(m=0->K (.sl i 0 0 0) bl (.br u::rest))/\(0<m->∀d:Nat,K (.sl bl.length 0 m (m+d)) (bl++[hU m d (dP u a)]) (.br u::rest))) False
    |_,_,_=>False)
   |_,_=>False)
  |_,_,_=>False)
 |_=>False
def XF{gl:Nat->Option Nat}:iF (G:=LG fr) du gl (Kd du):=by
 intro e op ae bl ch R ms w0 w K ρ o hg hl S bo ho h;unfold Kd at h;split at h
 ·rename_i c;split at h
  ·rename_i s xs t tx fc cN dX;split at h
   ·rename_i T ht gj;split at h
    ·rename_i i a m c' u rest gV fV;cases hq:bY bl.length bl with
     |false=>rw[hq]at h;exact h.elim
     |true=>
      rw[hq]at h;obtain⟨⟨hk,hm⟩,h0,h1⟩:=h;have uO:∀y∈cA u,y∈lits ae ae bl++ax (.br u::rest) R:=λy hy=>by
       refine oF _ ?_;show y∈cA u++ax rest R;exact kB _ hy
      have fh:=Ed (P:=du) (⟨hm,W5 S uO hk⟩:ei w a m c' (dP u a)) gj;obtain⟨mJ,ar,iO⟩:=c;simp only at fc cN dX;have e2:ar=#[s,xs]:=by rw[<-cN]
      have e3:iO=#[t,tx]:=by rw[<-dX]
      subst fc e2 e3;have kF:ρ s=.slice (aa ⟨ae.getD i 0,0,ag⟩) 0 0:=by rw[bo,gV];simp only[den]
      have oT:ρ xs=.slice a m c':=by rw[bo,fV];simp only[den]
      by_cases kE:m=0
      ·subst kE;refine⟨_,[],bl,_,w,.inl ?_,by simpa using hl,by simpa using S,h0 rfl⟩;rw[jU (P:=du) (ρ:=ρ) (o:=o) ho kF oT (W6 (g:=dP u a) fh ht ⟨ae.getD i 0,0,ag⟩)];simp only[den,cy]
      ·obtain⟨c2,w2,b_,cz,hle,vB⟩:=OX (g:=dP u a) (x:=a) (ty:=o.type) (t:=t) fh ht oM oM ⟨ae.getD i 0,0,ag⟩;have h2:=h1 oM (c2-m);rw[show m+(c2-m)=c2 by omega]at h2;refine⟨_,[w.heap.size],_,_,w2,.inl ?_,by simp[hl],?_,h2⟩
       ·rw[jU (P:=du) (ρ:=ρ) (o:=o) ho kF oT b_];simp only[den];rw[<-hl,lY]
       ·have e:aI (ae++[w.heap.size]) w.heap.size (hU m (c2-m) (dP u a))=⟨w.heap.size,af,.cells (bM m (dP u a) c2) 5 (0,0)⟩:=by
         unfold aI;rw[JS,show m+(c2-m)=c2 by omega];rfl
        rw[fw _ _ _ _ hl,fy _ _ (by rw[hl];exact hq)];simp only[lits,e];refine(S.new cz (cW _) vB).perm ?_;rw[bZ];exact kY.symm
    ·exact h.elim
   ·exact h.elim
  ·exact h.elim
 ·exact h.elim
def Ci{G:Type}[Bl G]{C:Ctx G}{f n:Nat}{ak:List V}{ch0:List G}{K:VK G}(hT:∀f c,C.T f=aa c->Sound C.P C.gl f c)(hQ:nZ C)(Gd:C.gl=cU)(cT:bz C n f ak [] ch0 K)
 {Y:List av} {ms:List Nat} {w0 w:an} (S:St ms w0 (ax ch0 Y) w):
 ba C.P f (aJ [] ak).toArray w λv w'=>∃(x:V)(aq:List Nat)(b9:List VB)(ce:List G),v=den aq x/\aq.length=b9.length/\St ms w0 (lits aq aq b9++ax ce Y) w'/\K x b9 ce:=
 eO hT hQ n (ae:=[]) (bl:=[]) (λg i h=>by rw[Gd]at h;cases h) rfl S cT
def awh{G:Type}[Bl G]{C:Ctx G}{f n:Nat}{ae:List Nat}{bl:List VB}{ak args':List V}{ch0 rest:List G}{R:List av}{ms:List Nat}{w0 w:an}{K:VK G}(hT:∀f c,C.T f=aa c->Sound C.P C.gl f c)(hQ:nZ C)(Gd:C.gl=cU)(hl:ae.length=bl.length)
 (hw:bY bl.length bl=af) (ha:aJ ae ak=aJ [] args') (S:St ms w0 (lits ae ae bl++ax (ch0++rest) R) w) (cT:bz C n f args' [] ch0 (bG 0 λv b c=>K (iV bl.length v) (bl++A6 bl.length b) (c++rest))):
 ba C.P f (aJ ae ak).toArray w λv w'=>∃x aq b9 ce,v=den (ae++aq) x/\(ae++aq).length=b9.length/\St ms w0 (lits (ae++aq) (ae++aq) b9++ax ce R) w'/\K x b9 ce:=by
 have S1:St ms w0 (ax ch0 (lits ae ae bl++ax rest R)) w:=S.perm (by
  rw[k7,fk (ax rest R) ch0,fk (lits ae ae bl++ax rest R) ch0];exact dW λf=>by simp only[ee];omega)
 rw[ha];refine(Ci hT hQ Gd cT S1).mono ?_;rintro v w' ⟨x,aq,b9,ce,rfl,h1,S',hK⟩;obtain⟨v2,cj,ci,hv,cK,S2,iQ⟩:=ig (n0:=0) h1 (oG _) S' hK;simp only[Qe,fu]at hv cK S2;refine⟨_,cj,_,_,?_,?_,?_,iQ⟩
 ·rw[hv,<-hl,Dp]
 ·rw[fH,fH,aeW,hl,cK]
 ·rw[fw _ _ _ _ hl,fy _ _ (by rw[hl];exact hw),<-hl,aeX];refine S2.perm ?_;rw[k7,fk (ax rest R) ce,fk (lits ae ae bl++ax rest R) ce];exact dW λf=>by simp only[ee];omega
def awi{ae:List Nat}{ak:List V}(ha:bF 0 ak=af):aJ ae ak=aJ [] ak:=by have:=pL (ae:=[]) (aq:=ae) ak ha;simpa using this
def ru(n:Nat):Nat:=if n=0 then 1 else cY 64 n
def mw(n:Nat)(f:az):az:=if n=0 then λ_=>7 else f
def afI(n:Nat):1<=ru n/\ru n<=64:=by unfold ru cY;split<;>omega
def Ke:dm (LG fr):=λak bl ch K=>match ak,ch with
 |[.raw (.slice a n c)],.br u::rest=>cond (bY bl.length bl) (jx u a n c (dP u a)/\∀d:Nat,K (.sl bl.length 0 (ru n) (ru n+d)) (bl++[hU (ru n) d (mw n (dP u a))]) (.br u::rest)) False
 |_,_=>False
def awj(u:an)(a:Option aF)(n c:Nat)(K:VK (LG fr)):Prop:=
 let m:Int:=if(64:Int)<((n:Nat):Int)then 64 else((n:Nat):Int)
 cond ((n:Int)==0) (K (.sl 0 0 1 1) [⟨af,⟨5,(0,0)⟩,[.int .u8 7]⟩] [.br u])
  ((0<=m/\m<=(c:Int))/\(jx u a m.toNat c (dP u a)/\m.toNat<=1000000)/\(m.toNat=0->K (.sl 0 0 0 0) [⟨af,⟨5,(0,0)⟩,[]⟩] [.br u])/\(0<m.toNat->∀d:Nat,K (.sl 0 0 m.toNat (m.toNat+d)) [hU m.toNat d (dP u a)] [.br u]))
def awk(u:an)(a:Option aF)(n c:Nat)(K:VK (LG fr)):bz (gM du cU ([]:List (bT (LG fr))) (Kd du) XF) 60 30 [.raw (.slice a n c)] [] [.br u] (bG 0 K)=awj u a n c K:=kR
def awl{gl:Nat->Option Nat}:Sound du gl 30 (Ke (fr:=fr)):=by
 intro ak ae bl ch R ms w0 w K hg hl S hc;unfold Ke at hc;split at hc
 ·rename_i a n c u rest;cases hq:bY bl.length bl with
  |false=>rw[hq]at hc;exact hc.elim
  |true=>
   rw[hq]at hc;obtain⟨hk,hK⟩:=hc
   let K0:VK (LG fr):=λv b ch=>ch=[.br u]/\∃m d,ru n=m/\v=.sl 0 0 m (m+d)/\∃B,b=[B]/\aI [0] 0 B=aI [0] 0 (hU m d (mw n (dP u a)))/\bF 0 B.c=af
   have cT:bz (gM du cU ([]:List (bT (LG fr))) (Kd du) XF) 60 30 [.raw (.slice a n c)] [] [.br u] (bG 0 K0):=by
    rw[awk];refine aN (λe=>?_) (λe=>?_)
    ·have e:n=0:=by simpa using e
     subst e;exact⟨rfl,1,0,rfl,rfl,_,rfl,rfl,rfl⟩
    ·have e:n≠0:=by simpa using e
     have hm:(if(64:Int)<((n:Nat):Int)then 64 else((n:Nat):Int))=((cY 64 n:Nat):Int):=ZY 64 n;rw[hm];have hn:ru n=cY 64 n:=by unfold ru;rw[if_neg e]
     have hf:mw n (dP u a)=dP u a:=by unfold mw;rw[if_neg e]
     have h1:=hk.1;have hle:cY 64 n<=n:=by unfold cY;omega
     have Cz:0<cY 64 n:=by unfold cY;omega
     have h64:cY 64 n<=64:=by unfold cY;omega
     refine⟨⟨oM,oM⟩,?_⟩;rw[tf];exact⟨⟨(hk.cut hle oM).2,oM⟩,λh0=>absurd h0 oM,λ_ d=>⟨rfl,_,d,hn,rfl,_,rfl,by rw[hf],rfl⟩⟩
   rw[awi (ae:=ae) (ak:=[.raw (.slice a n c)]) rfl];refine(Ci (C:=gM du cU ([]:List (bT (LG fr))) (Kd du) XF) (aK.nil (P:=du) (gl:=cU)).T (aK.nil (P:=du) (gl:=cU)).Q rfl cT (Y:=lits ae ae bl++ax rest R) (S.perm (dW λf=>by simp only[ax,ee];show _+(List.countP f (cA u)+_)=List.countP f (cA u)+_;omega))).mono ?_;rintro v w' ⟨x,aq,b9,ce,rfl,h1,S',sd⟩;obtain⟨v2,cj,ci,hv,cK,S2,rfl,m,d,hm,rfl,B,rfl,hB,hwB⟩:=ig (n0:=0) h1 (oG _) S' sd
   match cj,cK with
   |[b],_=>
    have hd:=hK d;rw[hm]at hd;refine⟨_,[b],_,_,?_,by simp[hl],?_,hd⟩
    ·rw[hv];have:(ae++[b]).getD bl.length 0=b:=by rw[<-hl];simp[gh]
     simp only[den,this,Qe,fu];rfl
    ·have e1:aI [b] b B=aI (ae++[b]) b (hU m d (mw n (dP u a))):=by
      have q1:aI [b] b B=aI [0] b B:=jL hwB;have q2:aI (ae++[b]) b (hU m d (mw n (dP u a)))=aI [0] b (hU m d (mw n (dP u a))):=jL rfl;rw[q1,q2];unfold aI at hB⊢;simp only[av.mk.injEq,Obj.cells.injEq]at hB⊢;exact⟨trivial,hB.2⟩
     rw[fw _ _ _ _ hl,fy _ _ (by rw[hl];exact hq)];simp only[Qe,fu,lits]at S2;rw[e1]at S2;refine S2.perm ?_;show lO ([_]++(cA u++(lits ae ae bl++ax rest R))) ((lits ae ae bl++[_])++(cA u++ax rest R));exact dW λf=>by simp only[ee,j9,lQ];omega
   |[],h=>simp at h
   |_::_::_,h=>simp at h
 ·exact hc.elim
def awm:gZ (Ke (fr:=fr)):=by
 intro ak bl ch K hc;unfold Ke at hc⊢;split at hc
 ·cases hq:bY bl.length bl with
  |false=>rw[hq]at hc;exact hc.elim
  |true=>rw[hq]at hc;exact⟨hc.1,λd=>⟨hc.2 d,_,rfl⟩⟩
 ·exact hc.elim
def eD(a m:Int):Int:=(i64.wrap (a.tmod m+m)).tmod m
def Kf(a:Int){m:Int}(h:0<m)(h2:m<=1000000):0<=eD a m/\eD a m<m:=by
 unfold eD;have h1:=Int.tmod_lt_of_pos a h;have h3:-m<a.tmod m:=by
  have:=Int.lt_tmod_of_pos a h;omega
 have hw:i64.wrap (a.tmod m+m)=a.tmod m+m:=lg oM;rw[hw];exact⟨Int.tmod_nonneg _ oM,Int.tmod_lt_of_pos _ h⟩
def Kg:dm (LG fr):=λak bl ch K=>match ak with
 |[.int .i64 a,.int .i64 (.ofNat 3)]=>cond (dq bl.length 5) ((eD a 3=0->K (.int .i64 0) bl ch)/\(eD a 3=1->K (.int .i64 1) bl ch)/\(eD a 3=2->K (.int .i64 2) bl ch)) (K (.int .i64 (eD a 3)) bl ch)
 |[.int .i64 a,.int .i64 (.ofNat 2)]=>(eD a 2=0->K (.int .i64 0) bl ch)/\(eD a 2=1->K (.int .i64 1) bl ch)
 |[.int .i64 a,.int .i64 (.ofNat (m+1))]=>K (.int .i64 (eD a (.ofNat (m+1)))) bl ch
 |_=>False
def awn(a:Int)(m:Nat)(X:V->Prop):eJ du [] 60 31 [.int .i64 a,.int .i64 (.ofNat (m+1))] X=X (.int .i64 (eD a (.ofNat (m+1)))):=kR
def awo(a:Int)(m:Nat)(ae:List Nat)(w:an):ba du 31 (aJ ae [.int .i64 a,.int .i64 (.ofNat (m+1))]).toArray w λx w'=>x=den ae (.int .i64 (eD a (.ofNat (m+1))))/\Ch [] w w':=
 Cn bW.nil 60 (by rw[awn]) rfl rfl ae w
def awp{gl:Nat->Option Nat}:Sound du gl 31 (Kg (fr:=fr)):=by
 intro ak ae bl ch R ms w0 w K hg hl S hc;have go:∀(a:Int)(m:Nat),K (.int .i64 (eD a (.ofNat (m+1)))) bl ch->ba du 31 (aJ ae [.int .i64 a,.int .i64 (.ofNat (m+1))]).toArray w λv w'=>∃x aq b9 ce,v=den (ae++aq) x/\(ae++aq).length=b9.length/\St ms w0 (lits (ae++aq) (ae++aq) b9++ax ce R) w'/\K x b9 ce:=by
  intro a m hK;refine(awo a m ae w).mono ?_;rintro v w' ⟨rfl,cz⟩;exact⟨_,[],bl,ch,sP,by simpa using hl,by simpa using S.quiet cz,hK⟩
 have cast:∀(a:Int)(m:Nat)(r:Int),eD a (.ofNat (m+1))=r->K (.int .i64 r) bl ch->K (.int .i64 (eD a (.ofNat (m+1)))) bl ch:=λa m r e h=>by rw[e];exact h
 unfold Kg at hc;split at hc
 ·rename_i a;refine go a 2 ?_;have hb:=Kf a (m:=3) dC dC;cases hq:dq bl.length 5 with
  |false=>rw[hq]at hc;exact hc
  |true=>
   rw[hq]at hc;have h3:eD a (.ofNat (2+1))=eD a 3:=rfl;have:eD a 3=0\/eD a 3=1\/eD a 3=2:=oM;rcases this with e|e|e
   ·exact cast a 2 _ e (hc.1 e)
   ·exact cast a 2 _ e (hc.2.1 e)
   ·exact cast a 2 _ e (hc.2.2 e)
 ·rename_i a;refine go a 1 ?_;have hb:=Kf a (m:=2) dC dC;have:eD a 2=0\/eD a 2=1:=oM;rcases this with e|e
  ·exact cast a 1 _ e (hc.1 e)
  ·exact cast a 1 _ e (hc.2 e)
 ·rename_i a m _ _;exact go a m hc
 ·exact hc.elim
def awq:gZ (Kg (fr:=fr)):=by
 intro ak bl ch K hc;unfold Kg at hc⊢;split at hc
 ·cases hq:dq bl.length 5 with
  |false=>rw[hq]at hc;exact⟨hc,[],sP⟩
  |true=>rw[hq]at hc;exact⟨λe=>⟨hc.1 e,[],sP⟩,λe=>⟨hc.2.1 e,[],sP⟩,λe=>⟨hc.2.2 e,[],sP⟩⟩
 ·exact⟨λe=>⟨hc.1 e,[],sP⟩,λe=>⟨hc.2 e,[],sP⟩⟩
 ·exact⟨hc,[],sP⟩
 ·exact hc.elim
def iN:V->Int|.int .i64 n=>n|_=>0
def sA:V->Option aF|.raw (.slice a _ _)=>a|_=>ag
def sN:V->Nat|.raw (.slice _ n _)=>n|_=>0
def sC:V->Nat|.raw (.slice _ _ c)=>c|_=>0
def ll(i:Nat):Bool:=ck 5 i&&ck i 8
def afJ(i:Nat)(v:V):Bool:=match v with
 |.int .i64 _=>!ll i
 |.raw (.slice _ _ _)=>ll i
 |_=>ah
def Kh:List V->Nat->Bool
 |[],i=>aC i 56
 |v::l,i=>afJ i v&&Kh l (i+1)
structure my where
 q:Nat->Int
 ka:Nat->Option aF
 kn:Nat->Nat
 kc:Nat->Nat
def XG(l:List V):Option my:=match l with
 |[.fi p ka kn kc]=>aa ⟨p.i,ka,kn,kc⟩
 |l=>bif Kh l 0 then aa ⟨λi=>iN (nth l i),λj=>sA (nth l (j+5)),λj=>sN (nth l (j+5)),λj=>sC (nth l (j+5))⟩else ag
def zz(i:Nat)(v:V):aj:=bif ll i then .slice (sA v) (sN v) (sC v)else .int .i64 (iN v)
def afK(ae:List Nat):∀(l:List V)(i:Nat),Kh l i=af->i+l.length=56/\ao ae l=(bg l.length).map λj=>zz (i+j) (nth l j)
 |[],i,h=>⟨cw h,rfl⟩
 |v::l,i,h=>by
  unfold Kh at h;rw[bJ]at h;obtain⟨h1,h2⟩:=afK ae l (i+1) h.2;refine⟨by simp;omega,?_⟩;rw[jv,ta,gx,lN];simp only[ao,h2];have e:ao ae l=(bg l.length).map ((λj=>zz (i+j) (nth (v::l) j))∘Nat.succ):=by
   rw[h2];apply mB;intro j _;show zz (i+1+j) (nth l j)=zz (i+(j+1)) (nth l j);rw[show i+1+j=i+(j+1) by omega]
  rw[<-h2,e];have hv:cl v (den ae v)=[zz (i+0) (nth (v::l) 0)]:=by
   have h3:=h.1;unfold afJ at h3;split at h3
   ·have:ll i=ah:=by simpa using h3
    simp only[cl,den,lU,lV,ly,zz,lM,this,cond_false,iN]
   ·simp only[cl,den,lU,lV,ly,zz,lM,h3,cond_true,sA,sN,sC]
   ·cases h3
  rw[hv];rfl
def awr{l:List V}{x:my}(h:XG l=aa x)(k:Nat->Nat×az)(ae:List Nat):ao ae l=tK ⟨x.q,k⟩ x.ka x.kn x.kc:=by
 unfold XG at h;split at h
 ·cases h;simp only[ao,cl,cy];rfl
 ·cases hb:Kh l 0 with
  |false=>rw[hb]at h;cases h
  |true=>
   rw[hb]at h;cases h;obtain⟨h1,h2⟩:=afK ae l 0 hb;rw[h2,show l.length=56 by omega];unfold tK;apply mB;intro j hj;have hj:=List.mem_range.1 hj;show zz (0+j) (nth l j)=_;rw[d_];unfold zz ll;cases hk:ck 5 j&&ck j 8 with
   |false=>rfl
   |true=>
    rw[bJ]at hk;have:=eU hk.1;simp only[cond_true];rw[show j-5+5=j by omega]
def sW(o1 o2 o3:Int)(q:Nat->Int)(i:Nat):Int:=
 bif ck i 13 then(bif aC i 1 then o1 else bif aC i 2 then o2 else bif aC i 3 then o3 else bif aC i 4 then 4 else bif aC i 9 then 1 else bif ck 10 i&&ck i 12 then bits .and .i64 (q i) 14 else 0)
 else bif ck i 33 then bits .and .i64 (q i) 15
 else bif ck i 38 then bits .and .i64 (q i) 31
 else bif ck i 41 then eD (q i) 5
 else bif ck i 46 then i64.wrap (1+eD (q i) 1000)
 else bif aC i 47 then eD (q i) 1001
 else bif ck i 49 then i64.wrap (1+eD (q i) 3)
 else bif aC i 50 then 0
 else bif ck i 53 then eD (q i) 1001
 else bif aC i 54 then i64.wrap (1+eD (q i) 1000)
 else bits .and .i64 (q i) 65535
def Dz(q:Nat->Int)(o1 o2 o3:Int):Prop:=
 (eD (q 1) 3=0/\((eD (q 2) 2=0/\o1=1/\o2=2/\o3=3)\/(eD (q 2) 2=1/\o1=1/\o2=3/\o3=2)))\/
 (eD (q 1) 3=1/\((eD (q 2) 2=0/\o1=2/\o2=1/\o3=3)\/(eD (q 2) 2=1/\o1=2/\o2=3/\o3=1)))\/
 (eD (q 1) 3=2/\((eD (q 2) 2=0/\o1=3/\o2=2/\o3=1)\/(eD (q 2) 2=1/\o1=3/\o2=1/\o3=2)))
def k4{α:Type}(a b c d:α):Nat->α:=λj=>match j with|0=>a|1=>b|2=>c|_=>d
def aws(o1 o2 o3:Int)(q:Nat->Int)(kn d:Nat->Nat):List V:=(bg 56).map λi=>bif ll i then .sl (i-5) 0 (ru (kn (i-5))) (ru (kn (i-5))+d (i-5))else .int .i64 (sW o1 o2 o3 q i)
def Pm(p:Nat->Int)(n d:Nat->Nat):List V:=(bg 56).map λi=>bif ll i then .sl (i-5) 0 (n (i-5)) (n (i-5)+d (i-5))else .int .i64 (p i)
section
variable(x:my)(f:Nat->Nat×az)(u:an)(K:VK (LG fr))
def Pn(i d:Nat):VB:=hU (ru (x.kn i)) d (mw (x.kn i) (dP u (x.ka i)))
def uk(i:Nat):Prop:=jx u (x.ka i) (x.kn i) (x.kc i) (dP u (x.ka i))
def XH(d3:Nat)(o1 o2 o3:Int):Prop:=uk x u 0/\∀d0:Nat,uk x u 1/\∀d1:Nat,uk x u 2/\∀d2:Nat,K (.agg (aws o1 o2 o3 x.q x.kn (k4 d0 d1 d2 d3))) [Pn x u 0 d0,Pn x u 1 d1,Pn x u 2 d2,Pn x u 3 d3] [.br u]
def XI(d3:Nat)(o1 o2 o3:Int):Prop:=(eD (x.q 2) 2=0->XH x u K d3 o1 o2 o3)/\(eD (x.q 2) 2=1->XH x u K d3 o1 o3 o2)
def afL:Prop:=uk x u 3/\∀d3:Nat,(eD (x.q 1) 3=0->XI x u K d3 1 2 3)/\(eD (x.q 1) 3=1->XI x u K d3 2 1 3)/\(eD (x.q 1) 3=2->XI x u K d3 3 2 1)
def XJ(fr:aQ->Nat×az):List (bT (LG fr)):=[⟨30,af,Ke⟩,⟨31,af,Kg⟩]
def afM:aK du cU (XJ fr):=aK.cons ⟨awl,λ_=>awm⟩ (aK.cons ⟨awp,λ_=>awq⟩ aK.nil)
def awt:bz (bU du cU (XJ fr)) 60 10 [.agg [.fi ⟨x.q,f⟩ x.ka x.kn x.kc]] [] [.br u] (bG 0 K)=afL x u K:=kR
end
structure Made(x:my)(p:Nat->Int)(n:Nat->Nat):Prop where
 o:Dz x.q (p 1) (p 2) (p 3)
 p:∀i,i<56->ll i=ah->p i=sW (p 1) (p 2) (p 3) x.q i
 n:∀j,n j=ru (x.kn j)
def afN(x:my)(u:an)(K:VK (LG fr)):Prop:=(uk x u 0/\uk x u 1/\uk x u 2/\uk x u 3)/\∀(p:Nat->Int)(n d:Nat->Nat),Made x p n->
 K (.agg (Pm p n d)) [hU (n 0) (d 0) (mw (x.kn 0) (dP u (x.ka 0))),hU (n 1) (d 1) (mw (x.kn 1) (dP u (x.ka 1))),hU (n 2) (d 2) (mw (x.kn 2) (dP u (x.ka 2))),hU (n 3) (d 3) (mw (x.kn 3) (dP u (x.ka 3)))] [.br u]
def awu{x:my}{u:an}{K:VK (LG fr)}(h:afN x u K):afL x u K:=by
 obtain⟨⟨r0,r1,r2,r3⟩,hK⟩:=h;have g:∀(d3:Nat)(o1 o2 o3:Int),Dz x.q o1 o2 o3->XH x u K d3 o1 o2 o3:=λd3 o1 o2 o3 h=>⟨r0,λd0=>⟨r1,λd1=>⟨r2,λd2=>hK (sW o1 o2 o3 x.q) (λj=>ru (x.kn j)) (k4 d0 d1 d2 d3) ⟨h,λ_ _ _=>rfl,λ_=>rfl⟩⟩⟩⟩;refine⟨r3,λd3=>⟨λe=>⟨λe2=>g d3 _ _ _ ?_,λe2=>g d3 _ _ _ ?_⟩,λe=>⟨λe2=>g d3 _ _ _ ?_,λe2=>g d3 _ _ _ ?_⟩,λe=>⟨λe2=>g d3 _ _ _ ?_,λe2=>g d3 _ _ _ ?_⟩⟩⟩<;>(unfold Dz;omega)
def XK:dm (LG fr):=λak bl ch K=>match ak,ch with
 |[.agg l],.br u::rest=>(match XG l with
  |some x=>cond (bY bl.length bl) (afN x u λv b c=>K (iV bl.length v) (bl++A6 bl.length b) (c++rest)) False
  |none=>False)
 |_,_=>False
def awv{gl:Nat->Option Nat}:Sound du gl 10 (XK (fr:=fr)):=by
 intro ak ae bl ch R ms w0 w K hg hl S hc;unfold XK at hc;split at hc
 ·rename_i l u rest;split at hc
  ·rename_i x hx;cases hq:bY bl.length bl with
   |false=>rw[hq]at hc;exact hc.elim
   |true=>
    rw[hq]at hc;refine awh (C:=bU du cU (XJ fr)) (n:=60) (args':=[.agg [.fi ⟨x.q,λ_=>(0,λ_=>0)⟩ x.ka x.kn x.kc]]) (ch0:=[.br u]) (rest:=rest) afM.T afM.Q rfl hl hq ?_ S (by rw[awt];exact awu hc);simp only[aJ,den,awr hx (λ_=>(0,λ_=>0)) ae,ao,cl,cy]
  ·exact hc.elim
 ·exact hc.elim
def afO(i:Nat)(v:V):Bool:=match v with
 |.int .i64 _=>!ll i
 |.raw (.slice _ _ _)=>ll i
 |.sl _ _ _ _=>ll i
 |_=>ah
def vD:List V->Nat->Bool
 |[],i=>aC i 56
 |v::l,i=>afO i v&&vD l (i+1)
def Po(ae:List Nat):V->Option aF|.raw (.slice a _ _)=>a|.sl i o _ _=>aa ⟨ae.getD i 0,o,ag⟩|_=>ag
def Ge:V->Nat|.raw (.slice _ n _)=>n|.sl _ _ n _=>n|_=>0
def Pp:V->Nat|.raw (.slice _ _ c)=>c|.sl _ _ _ c=>c|_=>0
def zA(ae:List Nat)(i:Nat)(v:V):aj:=bif ll i then .slice (Po ae v) (Ge v) (Pp v)else .int .i64 (iN v)
def afP(ae:List Nat):∀(l:List V)(i:Nat),vD l i=af->i+l.length=56/\ao ae l=(bg l.length).map λj=>zA ae (i+j) (nth l j)
 |[],i,h=>⟨cw h,rfl⟩
 |v::l,i,h=>by
  unfold vD at h;rw[bJ]at h;obtain⟨h1,h2⟩:=afP ae l (i+1) h.2;refine⟨by simp;omega,?_⟩;rw[jv,ta,gx,lN];simp only[ao,h2];have e:(bg l.length).map (λj=>zA ae (i+1+j) (nth l j))=(bg l.length).map ((λj=>zA ae (i+j) (nth (v::l) j))∘Nat.succ):=by
   apply mB;intro j _;show zA ae (i+1+j) (nth l j)=zA ae (i+(j+1)) (nth l j);rw[show i+1+j=i+(j+1) by omega]
  rw[e];have hv:cl v (den ae v)=[zA ae (i+0) (nth (v::l) 0)]:=by
   have h3:=h.1;unfold afO at h3;split at h3
   ·have:ll i=ah:=by simpa using h3
    simp only[cl,den,lU,lV,ly,zA,lM,this,cond_false,iN]
   ·simp only[cl,den,lU,lV,ly,zA,lM,h3,cond_true,Po,Ge,Pp]
   ·simp only[cl,den,lU,lV,ly,zA,lM,h3,cond_true,Po,Ge,Pp]
   ·cases h3
  rw[hv];rfl
def Gf(l:List V)(f:Nat->Nat×az):aX:=⟨λi=>iN (nth l i),f⟩
def XL{l:List V}(h:vD l 0=af)(f:Nat->Nat×az)(ae:List Nat):(aJ ae [.agg l]).toArray=#[.agg (ma (Gf l f) (λj=>Po ae (nth l (j+5))) (λj=>Ge (nth l (j+5))) (λj=>Pp (nth l (j+5))))]:=by
 obtain⟨h1,h2⟩:=afP ae l 0 h;simp only[aJ,den];rw[h2,show l.length=56 by omega];rfl
def Be:Nat->Nat×az:=λ_=>(0,λ_=>0)
def XM:QF:=⟨46,λak _=>match ak with
 |[.agg l]=>bif vD l 0 then aa (True,.int .i64 (og (λi=>iN (nth l i)) (λj=>Ge (nth l (j+5)))))else ag
 |_=>ag⟩
def XN:QF:=⟨49,λak _=>match ak with
 |[.agg l]=>bif vD l 0 then aa (True,.agg (dA (Sd.Tok.new (Gf l Be))))else ag
 |_=>ag⟩
def XO:QF:=⟨27,λak _=>match ak with
 |[.raw (.slice ag 0 0)]=>aa (True,.agg [.cu .u8 32 λ_=>0])
 |_=>ag⟩
def aww(gl:Nat->Option Nat):XM.Ok du gl:=by
 intro ak bl p_ v_ h hp ae w _ _;unfold XM at h;dsimp only at h;split at h
 ·rename_i l;cases hq:vD l 0 with
  |false=>rw[hq]at h;cases h
  |true=>
   rw[hq]at h;simp only[cond_true,a_,bI]at h;obtain⟨rfl,rfl⟩:=h;rw[XL hq Be ae];exact aox (Gf l Be) _ _ _ w
 ·cases h
def awx(gl:Nat->Option Nat):XN.Ok du gl:=by
 intro ak bl p_ v_ h hp ae w _ _;unfold XN at h;dsimp only at h;split at h
 ·rename_i l;cases hq:vD l 0 with
  |false=>rw[hq]at h;cases h
  |true=>
   rw[hq]at h;simp only[cond_true,a_,bI]at h;obtain⟨rfl,rfl⟩:=h;rw[XL hq Be ae];exact acC (Gf l Be) _ _ _ w
 ·cases h
def awy(gl:Nat->Option Nat):XO.Ok du gl:=by
 intro ak bl p_ v_ h hp ae w _ _;unfold XO at h;dsimp only at h;split at h
 ·simp only[a_,bI]at h;obtain⟨rfl,rfl⟩:=h;exact told (aoA w)
 ·cases h
def Gg(p:aX):Sd.ai:=⟨.new p,[],[]⟩
def Pq:dm (LG fr):=λak bl ch K=>match ak with
 |[.agg l]=>cond (vD l 0&&bY bl.length bl) (K (.ptr bl.length 0) (bl++[fA (Gg (Gf l Be))]) ch) False
 |_=>False
def Ki(p:aX)(bt:Nat)(ae:List Nat):aI ae bt (fA (Gg p))=⟨bt,af,.cells (kI (ah,⟨0,0⟩) (f3 ⟨ah,⟨0,0⟩,0,(λ_=>0),⟨ah,0,0⟩⟩ ⟨ah,⟨0,0⟩,0,(λ_=>0),⟨ah,0,0⟩⟩ ⟨ah,⟨0,0⟩,0,(λ_=>0),⟨ah,0,0⟩⟩) (p.i 42) (p.i 49)) 181 (0,0)⟩:=kR
def XP:List V:=[.bool ah,.int .i64 0,.int .i64 0,.int .i64 0]++(oE 32 (.int .u8 0)++[.bool ah,.int .i64 0,.int .u64 0])
def Pr(b m:Int):List V:=[.bool ah,.int .i64 0,.int .i64 0]++(XP++(XP++(XP++[.int .i64 b,.int .i64 m])))
def awz(p:aX)(ka:Nat->Option aF)(kn kc:Nat->Nat)(K:VK Empty):bz (bU du cU ([]:List (bT Empty))) 30 50 [.agg (fT p ka kn kc)] [] [] (bG 0 K)=K (.ptr 0 0) [⟨af,⟨181,(0,0)⟩,Pr (p.i 42) (p.i 49)⟩] []:=kR
def awA(p:aX)(bt:Nat)(ae:List Nat):aI ae bt ⟨af,⟨181,(0,0)⟩,Pr (p.i 42) (p.i 49)⟩=aI ae bt (fA (Gg p)):=kR
def afQ{G:Type}[Bl G]{C:Ctx G}{f n:Nat}{ak:List V}{ch0:List G}{K:VK G}(hT:∀f c,C.T f=aa c->Sound C.P C.gl f c)(hQ:nZ C)(Gd:C.gl=cU)(cT:Hd (bz C n f ak [] ch0 K))
 {Y:List av} {ms:List Nat} {w0 w:an} (S:St ms w0 (ax ch0 Y) w):
 ba C.P f (aJ [] ak).toArray w λv w'=>∃(x:V)(aq:List Nat)(b9:List VB)(ce:List G),v=den aq x/\aq.length=b9.length/\St ms w0 (lits aq aq b9++ax ce Y) w'/\K x b9 ce:=Ci hT hQ Gd cT.h S
def awB(p:aX)(ka:Nat->Option aF)(kn kc:Nat->Nat){Y:List av}{ms:List Nat}{w0 w:an}(S:St ms w0 Y w):ba du 50 #[.agg (ma p ka kn kc)] w λv w1=>∃bt,v=.pointer (aa ⟨bt,0,ag⟩)/\St ms w0 (aI [] bt (fA (Gg p))::Y) w1:=by
 have hv:Hd (bz (bU du cU ([]:List (bT Empty))) 30 50 [.agg (fT p ka kn kc)] [] [] (bG 0 λv b _=>v=.ptr 0 0/\b=[⟨af,⟨181,(0,0)⟩,Pr (p.i 42) (p.i 49)⟩])):=⟨by rw[awz];exact⟨rfl,rfl⟩⟩;have hr:=afQ (C:=bU du cU ([]:List (bT Empty))) (aK.nil (P:=du) (gl:=cU)).T (aK.nil (P:=du) (gl:=cU)).Q rfl hv (Y:=Y) S;clear hv;refine hr.mono ?_;rintro v w' ⟨y,aq,b9,ce,rfl,h1,S',hK⟩;obtain⟨v2,cj,ci,e,cK,S2,rfl,rfl⟩:=ig (n0:=0) (ae:=aq) h1 sP S' hK
 match cj,cK,e,S2 with
 |[bt],_,e,S2=>
  have S3:St ms w0 ([aI [bt] bt ⟨af,⟨181,(0,0)⟩,Pr (p.i 42) (p.i 49)⟩]++Y) w':=match ce,S2 with
   |[],S2=>S2
   |e::_,_=>nomatch e
  rw[awA,Ki,<-Ki p bt []]at S3;exact⟨bt,e,S3⟩
def awC:wb du cU (⟨50,af,Pq⟩:bT (LG fr)):=by
 refine⟨?_,λ_ ak bl ch K h=>?_⟩
 ·intro ak ae bl ch R ms w0 w K hg hl S hc;simp only at hc;unfold Pq at hc;split at hc
  ·rename_i l;cases hq:vD l 0&&bY bl.length bl with
   |false=>rw[hq]at hc;exact hc.elim
   |true=>
    rw[hq]at hc;simp only[bJ]at hq;rw[XL hq.1 Be ae];refine(awB (Gf l Be) _ _ _ S).mono ?_;rintro v w' ⟨bt,rfl,S2⟩;rw[Ki]at S2;refine⟨_,[bt],_,ch,?_,by simp[hl],?_,hc⟩
    ·simp only[den];rw[<-hl,lY]
    ·rw[fw _ _ _ _ hl,fy _ _ (by rw[hl];exact hq.2)];simp only[lits];rw[Ki];refine S2.perm ?_;rw[bZ];exact kY.symm
  ·exact hc.elim
 ·simp only at h⊢;unfold Pq at h⊢;split at h
  ·rename_i l;cases hq:vD l 0&&bY bl.length bl with
   |false=>rw[hq]at h;exact h.elim
   |true=>rw[hq]at h;exact⟨h,_,rfl⟩
  ·exact h.elim
def Kj(P:aL):(bA->V)->Op->List VB->List (LG fr)->VK (LG fr)->Prop:=λe op bl ch K=>match op with
 |.call c=>(match c.callee,c.args.toList,c.argTypes.toList with
  |.builtin .append,[s,xs],[t,tx]=>(match P.underlying t,P.underlying tx with
   |some (.slice 5),aa (.slice _)=>(match e s,e xs,ch with
    |.sl i 0 0 0,.raw (.slice a m c),.br u::rest=>cond (bY bl.length bl) (∃f,(jx u a m c f/\m<=1000000/\0<m)/\∀d:Nat,K (.sl bl.length 0 m (m+d)) (bl++[hU m d f]) (.br u::rest)) False
    |_,_,_=>False)
   |_,_=>False)
  |_,_,_=>False)
 |_=>False
def XQ{gl:Nat->Option Nat}:iF (G:=LG fr) du gl (Kj du):=by
 intro e op ae bl ch R ms w0 w K ρ o hg hl S bo ho h;unfold Kj at h;split at h
 ·rename_i c;split at h
  ·rename_i s xs t tx fc cN dX;split at h
   ·rename_i T ht gj;split at h
    ·rename_i i a m c' u rest gV fV;cases hq:bY bl.length bl with
     |false=>rw[hq]at h;exact h.elim
     |true=>
      rw[hq]at h;obtain⟨f,⟨hk,hm,kE⟩,h1⟩:=h;have uO:∀y∈cA u,y∈lits ae ae bl++ax (.br u::rest) R:=λy hy=>by
       refine oF _ ?_;show y∈cA u++ax rest R;exact kB _ hy
      have fh:=Ed (P:=du) (⟨hm,W5 S uO hk⟩:ei w a m c' f) gj;obtain⟨mJ,ar,iO⟩:=c;simp only at fc cN dX;have e2:ar=#[s,xs]:=by rw[<-cN]
      have e3:iO=#[t,tx]:=by rw[<-dX]
      subst fc e2 e3;have kF:ρ s=.slice (aa ⟨ae.getD i 0,0,ag⟩) 0 0:=by rw[bo,gV];simp only[den]
      have oT:ρ xs=.slice a m c':=by rw[bo,fV];simp only[den]
      obtain⟨c2,w2,b_,cz,hle,vB⟩:=OX (g:=f) (x:=a) (ty:=o.type) (t:=t) fh ht kE oM ⟨ae.getD i 0,0,ag⟩;have h2:=h1 (c2-m);rw[show m+(c2-m)=c2 by omega]at h2;refine⟨_,[w.heap.size],_,_,w2,.inl ?_,by simp[hl],?_,h2⟩
      ·rw[jU (P:=du) (ρ:=ρ) (o:=o) ho kF oT b_];simp only[den];rw[<-hl,lY]
      ·have e:aI (ae++[w.heap.size]) w.heap.size (hU m (c2-m) f)=⟨w.heap.size,af,.cells (bM m f c2) 5 (0,0)⟩:=by
        unfold aI;rw[JS,show m+(c2-m)=c2 by omega];rfl
       rw[fw _ _ _ _ hl,fy _ _ (by rw[hl];exact hq)];simp only[lits,e];refine(S.new cz (cW _) vB).perm ?_;rw[bZ];exact kY.symm
    ·exact h.elim
   ·exact h.elim
  ·exact h.elim
 ·exact h.elim
def Ps(fr:aQ->Nat×az):List (bT (LG fr)):=⟨50,af,Pq⟩::qL (LG fr) [XM,XN,XO,N9]
def afR:aK du cU (Ps fr):=aK.cons awC (kG (bW.cons (aww _) (bW.cons (awx _) (bW.cons (awy _) (bW.cons (adN _) bW.nil)))))
def awD(p:aX)(kn d:Nat->Nat):List V:=(bg 56).map λo=>bif ck 5 o&&ck o 8 then .sl (o-4) 0 (kn (o-5)) (kn (o-5)+d (o-5))else .int .i64 (p.i o)
def XR:List V:=[.int .i64 0,.bool ah]++oE 8 (.int .u8 0)
def XS(p:aX)(kn d:Nat->Nat):List V:=awD p kn d++(dA (Sd.Tok.new p)++(.ptr 5 0::(XR++(XR++(XR++([.ptr 6 0,.int .i64 0,.int .i64 0,.int .i64 (p.i 39)]++(oe ⟨2,4,0⟩++(yI ⟨1,⟨0,0,0,0⟩,⟨0,0,0,0⟩,⟨2,4,0⟩⟩++[.cu .u8 32 λ_=>0]))))))))
def Pt(p:aX)(kn d:Nat->Nat)(kf:Nat->Nat->Int):List VB:=[⟨af,⟨131,(0,0)⟩,XS p kn d⟩,hU (kn 0) (d 0) (kf 0),hU (kn 1) (d 1) (kf 1),hU (kn 2) (d 2) (kf 2),hU (kn 3) (d 3) (kf 3),
 ⟨af,⟨170,(0,0)⟩,[.raw (.slice ag 0 0),.int .i64 (p.i 48),.int .u64 0]⟩,fA (Gg p)]
def Pu(u:an)(xa:Nat->aF)(kn kc:Nat->Nat)(i:Nat)(X:(Nat->Int)->Nat->Prop):Prop:=∃f,(jx u (aa (xa i)) (kn i) (kc i) f/\kn i<=1000000/\0<kn i)/\∀d,X f d
def Pv(p:aX)(xa:Nat->aF)(kn kc:Nat->Nat):Int:=og (λi=>iN (nth (fT p (λi=>aa (xa i)) kn kc) i)) (λj=>Ge (nth (fT p (λi=>aa (xa i)) kn kc) (j+5)))
def awE(p:aX)(xa:Nat->aF)(kn kc:Nat->Nat):Pv p xa kn kc=og p.i kn:=kR
def G3(u:an)(p:aX)(xa:Nat->aF)(kn kc:Nat->Nat)(K:VK (LG fr)):Prop:=True/\cond (Pv p xa kn kc !=0) (K (.aD [.raw (.pointer ag),.int .i64 (Pv p xa kn kc)]) [] [.br u])
 (cond (decide (p.i 48<1)) (K (.aD [.raw (.pointer ag),.int .i64 1]) [] [.br u]) (cond (decide (p.i 48>64)) (K (.aD [.raw (.pointer ag),.int .i64 1]) [] [.br u])
  (Pu u xa kn kc 0 λf0 d0=>Pu u xa kn kc 1 λf1 d1=>Pu u xa kn kc 2 λf2 d2=>Pu u xa kn kc 3 λf3 d3=>True/\True/\True/\True/\K (.aD [.ptr 0 0,.int .i64 0]) (Pt p kn (λj=>[d0,d1,d2,d3].getD j 0) λj=>[f0,f1,f2,f3].getD j f0) [.br u])))
def awF(u:an)(p:aX)(xa:Nat->aF)(kn kc:Nat->Nat)(K:VK (LG fr)):bz (gM du cU (Ps fr) (Kj du) XQ) 60 32 [.agg (fT p (λi=>aa (xa i)) kn kc)] [] [.br u] (bG 0 K)=G3 u p xa kn kc K:=kR
def KN(u:an)(p:aX)(kn:Nat->Nat)(kf:Nat->Nat->Int):VK (LG fr):=λv b ch=>∃d,v=.aD [.ptr 0 0,.int .i64 0]/\b=Pt p kn d kf/\ch=[.br u]
def awG{u:an}{p:aX}{xa:Nat->aF}{kn kc:Nat->Nat}{kf:Nat->Nat->Int}(h:og p.i kn=0)(hk:∀i,i<4->ei u (aa (xa i)) (kn i) (kc i) (kf i))(h1:∀i,i<4->0<kn i):G3 (fr:=fr) u p xa kn kc (KN u p kn kf):=by
 have hc:Pv p xa kn kc=0:=(awE p xa kn kc).trans h;have hq:=aoy h;refine⟨trivial,aN (λe=>absurd hc (by simpa using e)) λ_=>aN (λe=>absurd (of_decide_eq_true e) oM) λ_=>aN (λe=>absurd (of_decide_eq_true e) oM) λ_=>?_⟩;exact⟨kf 0,⟨(hk 0 oM).2,(hk 0 oM).1,h1 0 oM⟩,λd0=>⟨kf 1,⟨(hk 1 oM).2,(hk 1 oM).1,h1 1 oM⟩,λd1=>⟨kf 2,⟨(hk 2 oM).2,(hk 2 oM).1,h1 2 oM⟩,λd2=>⟨kf 3,⟨(hk 3 oM).2,(hk 3 oM).1,h1 3 oM⟩,
  λd3=>⟨trivial,trivial,trivial,trivial,λj=>[d0,d1,d2,d3].getD j 0,rfl,rfl,rfl⟩⟩⟩⟩⟩
def awH(p:aX)(kn d:Nat->Nat)(b k0 k1 k2 k3 bq bt:Nat):aI [b,k0,k1,k2,k3,bq,bt] b ⟨af,⟨131,(0,0)⟩,XS p kn d⟩=⟨b,af,.cells (tY p (λi=>aa ⟨[k0,k1,k2,k3].getD i 0,0,ag⟩) kn (λi=>kn i+d i) (⟨4,(p.i 55),(-1),(⟨0,0⟩:Sd.Timer),(⟨0,0⟩:Sd.Timer),ah⟩:Sd.Tok) bq
 (f3 (⟨(0:Int),ah,(λ_=>0)⟩:fg) (⟨(0:Int),ah,(λ_=>0)⟩:fg) (⟨(0:Int),ah,(λ_=>0)⟩:fg)) bt (0:Int) (0:Int) (p.i 39) (⟨2,4,0⟩:Label) (⟨1,(⟨0,0,0,0⟩:X4),(⟨0,0,0,0⟩:X4),(⟨2,4,0⟩:Label)⟩:fC) (λ_=>0)) 131 (0,0)⟩:=kR
def awI(p:aX)(ka:Nat->Option aF)(kn kc:Nat->Nat)(kf:Nat->Nat->Int)(h:og p.i kn=0)(w:an)(hk:∀i,i<4->ei w (ka i) (kn i) (kc i) (kf i)):
 ba du 32 #[.agg (ma p ka kn kc)] w λv w1=>∃(b bq bt:Nat)(xa:Nat->Option aF)(xc:Nat->Nat)(B:Nat->List av),v=.tuple #[.pointer (aa ⟨b,0,ag⟩),.int .i64 0]/\(∀i,i<4->ff 5 (kn i) (kf i) (xa i) (xc i) (B i))/\St [] w ([⟨b,af,.cells (tY p xa kn xc (⟨4,(p.i 55),(-1),(⟨0,0⟩:Sd.Timer),(⟨0,0⟩:Sd.Timer),ah⟩:Sd.Tok) bq (f3 (⟨(0:Int),ah,(λ_=>0)⟩:fg) (⟨(0:Int),ah,(λ_=>0)⟩:fg) (⟨(0:Int),ah,(λ_=>0)⟩:fg)) bt (0:Int) (0:Int) (p.i 39) (⟨2,4,0⟩:Label) (⟨1,(⟨0,0,0,0⟩:X4),(⟨0,0,0,0⟩:X4),(⟨2,4,0⟩:Label)⟩:fC) (λ_=>0)) 131 (0,0)⟩,⟨bq,af,.cells #[.slice ag 0 0,.int .i64 (p.i 48),.int .u64 0] 170 (0,0)⟩,⟨bt,af,.cells (kI (ah,(⟨(0:Int),(0:Int)⟩:Sd.Timer)) (f3 (⟨ah,⟨(0:Int),(0:Int)⟩,(0:Int),(λ_=>0),⟨ah,(0:Int),(0:Int)⟩⟩:gL) (⟨ah,⟨(0:Int),(0:Int)⟩,(0:Int),(λ_=>0),⟨ah,(0:Int),(0:Int)⟩⟩:gL) (⟨ah,⟨(0:Int),(0:Int)⟩,(0:Int),(λ_=>0),⟨ah,(0:Int),(0:Int)⟩⟩:gL)) (p.i 42) (p.i 49)) 181 (0,0)⟩]++(B 0++(B 1++(B 2++(B 3++[]))))) w1:=by
 have xp:∀i,i<4->0<kn i:=by
  have:(AS kn&&u_ (kn 3))=af:=by
   cases e:(AS kn&&u_ (kn 3))with
   |true=>rfl
   |false=>exfalso;unfold og at h;repeat' split at h
           all_goals first|omega|(rename_i U8;simp[e]at U8)
  simp only[AS,u_,bJ,decide_eq_true_eq]at this;intro i hi
  match i,hi with
  |0,_=>omega
  |1,_=>omega
  |2,_=>omega
  |3,_=>omega
  |i+4,h=>exact absurd h oM
 have hx:∀i,∃x,i<4->ka i=aa x:=by
  intro i;by_cases hi:i<4
  ·cases e:ka i with
   |none=>have:=((hk i hi).2.2.1 e).1;have:=xp i hi;omega
   |some x=>exact⟨x,λ_=>rfl⟩
  ·exact⟨⟨0,0,ag⟩,λh=>absurd h hi⟩
 let ya:Nat->aF:=λi=>Classical.choose (hx i)
 have hy:∀i,i<4->ka i=aa (ya i):=λi=>Classical.choose_spec (hx i);have e0:#[Value.agg (ma p ka kn kc)]=(aJ [] [.agg (fT p (λi=>aa (ya i)) kn kc)]).toArray:=by
  have e1:ma p ka kn kc=ma p (λi=>aa (ya i)) kn kc:=by
   unfold ma;rw[hy 0 oM,hy 1 oM,hy 2 oM,hy 3 oM]
  exact(congrArg (λx=>#[Value.agg x]) e1).trans kR
 rw[e0];have hv:Hd (bz (gM du cU (Ps λ_=>(0,λ_=>0)) (Kj du) XQ) 60 32 [.agg (fT p (λi=>aa (ya i)) kn kc)] [] [.br w] (bG 0 (KN w p kn kf))):=⟨by rw[awF];exact awG h (λi hi=>by rw[<-hy i hi];exact hk i hi) xp⟩;have hr:=afQ (C:=gM du cU (Ps λ_=>(0,λ_=>0)) (Kj du) XQ) afR.T afR.Q rfl hv (Y:=[]) (show St [] w (ax [LG.br w] []) w from abD w);clear hv;refine hr.mono ?_;rintro v w' ⟨y,aq,b9,ce,rfl,hl1,S',hK⟩;obtain⟨v2,cj,ci,e,cK,S2,d,rfl,rfl,rfl⟩:=ig (n0:=0) (ae:=aq) hl1 sP S' hK
 match cj,cK,e,S2 with
 |[b,k0,k1,k2,k3,bq,bt],_,e,S2=>
  refine⟨b,bq,bt,λi=>aa ⟨[k0,k1,k2,k3].getD i 0,0,ag⟩,λi=>kn i+d i,λi=>[⟨[k0,k1,k2,k3].getD i 0,af,.cells (bM (kn i) (kf i) (kn i+d i)) 5 (0,0)⟩],e,λi hi=>⟨Zf _ _,.inr ⟨_,rfl,rfl⟩⟩,?_⟩;have Pw:∀(ae:List Nat)(k i:Nat),aI ae k (hU (kn i) (d i) (kf i))=⟨k,af,.cells (bM (kn i) (kf i) (kn i+d i)) 5 (0,0)⟩:=λae k i=>by unfold aI;rw[JS];rfl
  have el:lits [b,k0,k1,k2,k3,bq,bt] [b,k0,k1,k2,k3,bq,bt] (Pt p kn d kf)=aI [b,k0,k1,k2,k3,bq,bt] b ⟨af,⟨131,(0,0)⟩,XS p kn d⟩::([aI [b,k0,k1,k2,k3,bq,bt] k0 (hU (kn 0) (d 0) (kf 0)),aI [b,k0,k1,k2,k3,bq,bt] k1 (hU (kn 1) (d 1) (kf 1)),aI [b,k0,k1,k2,k3,bq,bt] k2 (hU (kn 2) (d 2) (kf 2)),
   aI [b,k0,k1,k2,k3,bq,bt] k3 (hU (kn 3) (d 3) (kf 3))]++[⟨bq,af,.cells #[.slice ag 0 0,.int .i64 (p.i 48),.int .u64 0] 170 (0,0)⟩,aI [b,k0,k1,k2,k3,bq,bt] bt (fA (Gg p))]):=rfl
  rw[Pw,Pw,Pw,Pw,Ki,awH]at el;have S3:=S2.sub (List.sublist_append_left _ _);have S4:St [] w (lits [b,k0,k1,k2,k3,bq,bt] [b,k0,k1,k2,k3,bq,bt] (Pt p kn d kf)) w':=S3;rw[el]at S4;exact S4.perm (vJ _ List.perm_append_comm)
end
end Go.Proofs.YtddcipamdggcnaaGreatDoor
