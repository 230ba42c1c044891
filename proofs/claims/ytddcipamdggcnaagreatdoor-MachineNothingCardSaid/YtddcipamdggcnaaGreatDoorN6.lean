/- Part 6 of the proof. -/
import Derived.Test.YtddcipamdggcnaaGreatDoorProg
import Derived.ChangeArms
import Derived.OpenShut
import Derived.Deep.Slices
import Derived.Test.YtddcipamdggcnaaGreatDoorRows
import Derived.ProofKit
import Derived.FnData
import Derived.MakeChecks
import Derived.Stop.Joined
import Derived.WalkKit
import Derived.Below
import Derived.BigQuiet
import Derived.WalkSpells
import Derived.Lib.Hide
import Derived.Laws.CopyOwn
import Derived.Carry
import Derived.Test.YtddcipamdggcnaaGreatDoorN5
set_option linter.all false
set_option maxRecDepth 100000
set_option maxHeartbeats 4000000
noncomputable section
open Go.Proofs.Tryz
open Go.IntKind (u8 u16 u32 u64 i64)
open Array renaming getElem?_eq_none->Kq,getElem?_eq_getElem->Kw,ext'->fD,length_toList->wF
open Bool renaming true->af,false->ag,cond_eq_ite->agl,and_eq_true->bD
open Go renaming Program->aG,Addr->aI,TypeId->aM,Value->ai,World->aj,Oper->aw,Operand->bg,Exit->dE,IntKind->fH,FuncId->fl,heap_alloc_new->n6
open Go.Addr renaming add_lit->iK,add->qJ
open Go.Builtin renaming zeroCells->qM
open Go.Cell renaming okWide->DH
open Go.DataW renaming trod->PV
open Go.IntKind renaming wrap_u64->Bm,bits->vj,signed->vm
open Go.MemPlace renaming row->YL
open Go.Proofs.YtddcipamdggcnaaGreatDoor.Rows renaming laid_sidestick_sha_roots->agm
open Go.Src renaming ofSlice->qN
open Go.Value renaming bool->DD,okWide->DG,int->fI,slice->wN
open Go.Value.slice renaming injEq->agn
open Int renaming natCast_nonneg->Bg,emod_eq_of_lt->Kt,ofNat->dG,fdiv->kP,toNat_natCast->vn
open List renaming flatMap_append->Bi,getElem?_of_mem->DA,getElem?_drop->Gu,flatMap_def->KJ,length_range->PM,getElem?_take->PQ,take_zero->PS,getElem?_take_of_lt->YH,append_assoc->bW,range->bo,mem_cons->cF,append_nil->cT,countP_append->dZ,mem_append->eI,length_append->fL,nil_append->fQ,cons_append->fm,map_cons->gb,getD->gd,getElem?_append_left->gm,countP_cons->j5,take_append_drop->jH,getElem?_map->jW,getElem?_toArray->jX,getElem?_eq_getElem->jY,length_cons->jf,getElem?_eq_none->ju,sublist_append_right->kG,perm_middle->kH,map_map->l5,eq_nil_of_length_eq_zero->lz,Perm->mE,mem_map->n8,replicate->n_,map_congr_left->ni,countP_nil->oc,getElem?_range->pQ,mem_append_left->pS,mem_cons_of_mem->qQ,perm_append_comm_assoc->qR,not_mem_nil->qS,mem_of_getElem?->sE,nodup_cons->tS,map_append->tX,range_succ_eq_map->tZ,getElem?_append_right->vg,mem_cons_self->vi,length_take->zr,ext_getElem?->zv
open List.Perm renaming swap->Bb,append_left->j4,cons->vh,trans->wK
open List.Sublist renaming trans->agk,append_left->mD
open Nat renaming le_of_not_lt->YE,le_add_right->YI,beq->aA,ble->bZ,lt_or_ge->c9,le_refl->cY,eq_of_beq_eq_true->ck,zero_add->dS,blt->db,le_of_ble_eq_true->eO,le_trans->ia,add_zero->lA,add_mul->n9,zero_le->oQ,beq_refl->tW,add_assoc->tY,ble_eq_true_of_le->wG
open Option renaming some->aa,none->ae,map_eq_some_iff->iX,map_some->oO
open Option.some renaming injEq->aW,inj->cG
open Prod.mk renaming injEq->bC
namespace Go.Proofs.YtddcipamdggcnaaGreatDoor
section
open Go Go.RowKit Go.BigFrame Sx Vx
variable{fr:Sd.aO->Nat×Sd.ax}
def afi (i:Nat) (v:V):Bool:=match v with
 |.int .i64 _=>!kF i
 |.raw (.slice _ _ _)=>kF i
 |.sl _ _ _ _=>kF i
 |_=>ag
def vb:List V->Nat->Bool
 |[],i=>aA i 56
 |v::l,i=>afi i v&&vb l (i+1)
def O3 (ids:List Nat):V->Option aI|.raw (.slice a _ _)=>a|.sl i o _ _=>aa ⟨ids.getD i 0,o,ae⟩|_=>ae
def F7:V->Nat|.raw (.slice _ n _)=>n|.sl _ _ n _=>n|_=>0
def O4:V->Nat|.raw (.slice _ _ c)=>c|.sl _ _ _ c=>c|_=>0
def zd (ids:List Nat) (i:Nat) (v:V):ai:=bif kF i then .slice (O3 ids v) (F7 v) (O4 v)else .int .i64 (iN v)
def afj (ids:List Nat):∀(l:List V) (i:Nat),vb l i=af->i+l.length=56/\ak ids l=(bo l.length).map λj=>zd ids (i+j) (nth l j)
 |[],i,h=>⟨ck h,rfl⟩
 |v::l,i,h=>by
  unfold vb at h;rw[bD]at h;obtain⟨h1,h2⟩:=afj ids l (i+1) h.2;refine⟨by simp;omega,?_⟩;rw[jf,tZ,gb,l5];simp only[ak,h2];have e:(bo l.length).map (λj=>zd ids (i+1+j) (nth l j))=(bo l.length).map ((λj=>zd ids (i+j) (nth (v::l) j))∘Nat.succ):=by
   apply ni;intro j _;show zd ids (i+1+j) (nth l j)=zd ids (i+(j+1)) (nth l j);rw[show i+1+j=i+(j+1) by omega]
  rw[e];have hv:cl v (den ids v)=[zd ids (i+0) (nth (v::l) 0)]:=by
   have h3:=h.1;unfold afi at h3;split at h3
   ·have:kF i=ag:=by simpa using h3
    simp only[cl,den,lD,lE,kX,zd,lA,this,cond_false,iN]
   ·simp only[cl,den,lD,lE,kX,zd,lA,h3,cond_true,O3,F7,O4]
   ·simp only[cl,den,lD,lE,kX,zd,lA,h3,cond_true,O3,F7,O4]
   ·cases h3
  rw[hv];rfl
def F8 (l:List V) (f:Nat->Nat×Sd.ax):Sd.aU:=⟨λi=>iN (nth l i),f⟩
def Xw {l:List V} (h:vb l 0=af) (f:Nat->Nat×Sd.ax) (ids:List Nat):(aE ids [.agg l]).toArray=#[.agg (lg (F8 l f) (λj=>O3 ids (nth l (j+5))) (λj=>F7 (nth l (j+5))) (λj=>O4 (nth l (j+5))))]:=by
 obtain⟨h1,h2⟩:=afj ids l 0 h;simp only[aE,den];rw[h2,show l.length=56 by omega];rfl
def A1:Nat->Nat×Sd.ax:=λ_=>(0,λ_=>0)
def Xx:QF:=⟨46,λargs _=>match args with
 |[.agg l]=>bif vb l 0 then aa (True,.int .i64 (nO (λi=>iN (nth l i)) (λj=>F7 (nth l (j+5)))))else ae
 |_=>ae⟩
def Xy:QF:=⟨49,λargs _=>match args with
 |[.agg l]=>bif vb l 0 then aa (True,.agg (dm (Sd.Tok.new (F8 l A1))))else ae
 |_=>ae⟩
def Xz:QF:=⟨27,λargs _=>match args with
 |[.raw (.slice ae 0 0)]=>aa (True,.agg [.cv .u8 32 λ_=>0])
 |_=>ae⟩
def avB (gl:Nat->Option Nat):Xx.Ok prog gl:=by
 intro args bl p_ v_ h hp ids w _ _;unfold Xx at h;dsimp only at h;split at h
 ·rename_i l;cases hq:vb l 0 with
  |false=>rw[hq]at h;cases h
  |true=>
   rw[hq]at h;simp only[cond_true,aW,bC]at h;obtain⟨rfl,rfl⟩:=h;rw[Xw hq A1 ids];exact anB (F8 l A1) _ _ _ w
 ·cases h
def avC (gl:Nat->Option Nat):Xy.Ok prog gl:=by
 intro args bl p_ v_ h hp ids w _ _;unfold Xy at h;dsimp only at h;split at h
 ·rename_i l;cases hq:vb l 0 with
  |false=>rw[hq]at h;cases h
  |true=>
   rw[hq]at h;simp only[cond_true,aW,bC]at h;obtain⟨rfl,rfl⟩:=h;rw[Xw hq A1 ids];exact ab5 (F8 l A1) _ _ _ w
 ·cases h
def avD (gl:Nat->Option Nat):Xz.Ok prog gl:=by
 intro args bl p_ v_ h hp ids w _ _;unfold Xz at h;dsimp only at h;split at h
 ·simp only[aW,bC]at h;obtain⟨rfl,rfl⟩:=h;exact told (anE w)
 ·cases h
def F9 (p:Sd.aU):Sd.ah:=⟨.new p,[],[]⟩
def O5:dk (LG fr):=λargs bl ch K=>match args with
 |[.agg l]=>cond (vb l 0&&bY bl.length bl) (K (.ptr bl.length 0) (bl++[fg (F9 (F8 l A1))]) ch) False
 |_=>False
def J0 (p:Sd.aU) (bt:Nat) (ids:List Nat):aC ids bt (fg (F9 p))=⟨bt,af,.cells (ki (ag,⟨0,0⟩) (f3 ⟨ag,⟨0,0⟩,0,(λ_=>0),⟨ag,0,0⟩⟩ ⟨ag,⟨0,0⟩,0,(λ_=>0),⟨ag,0,0⟩⟩ ⟨ag,⟨0,0⟩,0,(λ_=>0),⟨ag,0,0⟩⟩) (p.i 42) (p.i 49)) 181 (0,0)⟩:=kR
def XA:List V:=[.bool ag,.int .i64 0,.int .i64 0,.int .i64 0]++(n_ 32 (.int .u8 0)++[.bool ag,.int .i64 0,.int .u64 0])
def O6 (b m:Int):List V:=[.bool ag,.int .i64 0,.int .i64 0]++(XA++(XA++(XA++[.int .i64 b,.int .i64 m])))
def avE (p:Sd.aU) (ka:Nat->Option aI) (kn kc:Nat->Nat) (K:VK Empty):br (bM prog cJ ([]:List (bK Empty))) 30 50 [.agg (fM p ka kn kc)] [] [] (bA 0 K)=K (.ptr 0 0) [⟨af,⟨181,(0,0)⟩,O6 (p.i 42) (p.i 49)⟩] []:=kR
def avF (p:Sd.aU) (bt:Nat) (ids:List Nat):aC ids bt ⟨af,⟨181,(0,0)⟩,O6 (p.i 42) (p.i 49)⟩=aC ids bt (fg (F9 p)):=kR
def afk {G:Type} [Bl G] {C:Ctx G} {f n:Nat} {args:List V} {ch0:List G} {K:VK G} (hT:∀f c,C.T f=aa c->Sound C.P C.gl f c) (hQ:nG C) (F6:C.gl=cJ) (cV:Hd (br C n f args [] ch0 K))
 {Y:List ao} {ms:List Nat} {w0 w:aj} (S:St ms w0 (au ch0 Y) w):
 aX C.P f (aE [] args).toArray w λv w'=>∃(x:V) (more:List Nat) (bl':List VB) (ch':List G),v=den more x/\more.length=bl'.length/\St ms w0 (lits more more bl'++au ch' Y) w'/\K x bl' ch':=B6 hT hQ F6 cV.h S
def avG (p:Sd.aU) (ka:Nat->Option aI) (kn kc:Nat->Nat) {Y:List ao} {ms:List Nat} {w0 w:aj} (S:St ms w0 Y w):aX prog 50 #[.agg (lg p ka kn kc)] w λv w1=>∃bt,v=.pointer (aa ⟨bt,0,ae⟩)/\St ms w0 (aC [] bt (fg (F9 p))::Y) w1:=by
 have hv:Hd (br (bM prog cJ ([]:List (bK Empty))) 30 50 [.agg (fM p ka kn kc)] [] [] (bA 0 λv b _=>v=.ptr 0 0/\b=[⟨af,⟨181,(0,0)⟩,O6 (p.i 42) (p.i 49)⟩])):=⟨by rw[avE];exact⟨rfl,rfl⟩⟩;have hr:=afk (C:=bM prog cJ ([]:List (bK Empty))) (aH.nil (P:=prog) (gl:=cJ)).T (aH.nil (P:=prog) (gl:=cJ)).Q rfl hv (Y:=Y) S;clear hv;refine hr.mono ?_;rintro v w' ⟨y,more,bl',ch',rfl,h1,S',hK⟩;obtain⟨v2,cn,bl2,e,cX,S2,rfl,rfl⟩:=iP (n0:=0) (ids:=more) h1 sP S' hK
 match cn,cX,e,S2 with
 |[bt],_,e,S2=>
  have S3:St ms w0 ([aC [bt] bt ⟨af,⟨181,(0,0)⟩,O6 (p.i 42) (p.i 49)⟩]++Y) w':=match ch',S2 with
   |[],S2=>S2
   |e::_,_=>nomatch e
  rw[avF,J0,<-J0 p bt []]at S3;exact⟨bt,e,S3⟩
def avH:vL prog cJ (⟨50,af,O5⟩:bK (LG fr)):=by
 refine⟨?_,λ_ args bl ch K h=>?_⟩
 ·intro args ids bl ch R ms w0 w K hg hl S hc;simp only at hc;unfold O5 at hc;split at hc
  ·rename_i l;cases hq:vb l 0&&bY bl.length bl with
   |false=>rw[hq]at hc;exact hc.elim
   |true=>
    rw[hq]at hc;simp only[bD]at hq;rw[Xw hq.1 A1 ids];refine(avG (F8 l A1) _ _ _ S).mono ?_;rintro v w' ⟨bt,rfl,S2⟩;rw[J0]at S2;refine⟨_,[bt],_,ch,?_,by simp[hl],?_,hc⟩
    ·simp only[den];rw[<-hl,lG]
    ·rw[fu _ _ _ _ hl,fw _ _ (by rw[hl];exact hq.2)];simp only[lits];rw[J0];refine S2.perm ?_;rw[bW];exact kH.symm
  ·exact hc.elim
 ·simp only at h⊢;unfold O5 at h⊢;split at h
  ·rename_i l;cases hq:vb l 0&&bY bl.length bl with
   |false=>rw[hq]at h;exact h.elim
   |true=>rw[hq]at h;exact⟨h,_,rfl⟩
  ·exact h.elim
def J1 (P:aG):(bg->V)->Op->List VB->List (LG fr)->VK (LG fr)->Prop:=λe op bl ch K=>match op with
 |.call c=>(match c.callee,c.args.toList,c.argTypes.toList with
  |.builtin .append,[s,xs],[t,tx]=>(match P.underlying t,P.underlying tx with
   |some (.slice 5),aa (.slice _)=>(match e s,e xs,ch with
    |.sl i 0 0 0,.raw (.slice a m c),.bj u::rest=>cond (bY bl.length bl) (∃f,(jc u a m c f/\m<=1000000/\0<m)/\∀d:Nat,K (.sl bl.length 0 m (m+d)) (bl++[gL m d f]) (.bj u::rest)) False
    |_,_,_=>False)
   |_,_=>False)
  |_,_,_=>False)
 |_=>False
def XB {gl:Nat->Option Nat}:ik (G:=LG fr) prog gl (J1 prog):=by
 intro e op ids bl ch R ms w0 w K ρ o hg hl S bd ho h;unfold J1 at h;split at h
 ·rename_i c;split at h
  ·rename_i s xs t tx ff cN dU;split at h
   ·rename_i T ht gr;split at h
    ·rename_i i a m c' u rest gE fS;cases hq:bY bl.length bl with
     |false=>rw[hq]at h;exact h.elim
     |true=>
      rw[hq]at h;obtain⟨f,⟨hk,hm,j8⟩,h1⟩:=h;have uq:∀y∈cw u,y∈lits ids ids bl++au (.bj u::rest) R:=λy hy=>by
       refine List.mem_append_right _ ?_;show y∈cw u++au rest R;exact pS _ hy
      have fi:=DY (P:=prog) (⟨hm,WJ S uq hk⟩:dM w a m c' f) gr;obtain⟨mR,ar,iO⟩:=c;simp only at ff cN dU;have e2:ar=#[s,xs]:=by rw[<-cN]
      have e3:iO=#[t,tx]:=by rw[<-dU]
      subst ff e2 e3;have j9:ρ s=.slice (aa ⟨ids.getD i 0,0,ae⟩) 0 0:=by rw[bd,gE];simp only[den]
      have oA:ρ xs=.slice a m c':=by rw[bd,fS];simp only[den]
      obtain⟨c2,w2,bT,cz,hle,u_⟩:=OA (g:=f) (x:=a) (ty:=o.type) (t:=t) fi ht j8 oM ⟨ids.getD i 0,0,ae⟩;have h2:=h1 (c2-m);rw[show m+(c2-m)=c2 by omega]at h2;refine⟨_,[w.heap.size],_,_,w2,.inl ?_,by simp[hl],?_,h2⟩
      ·rw[jJ (P:=prog) (ρ:=ρ) (o:=o) ho j9 oA bT];simp only[den];rw[<-hl,lG]
      ·have e:aC (ids++[w.heap.size]) w.heap.size (gL m (c2-m) f)=⟨w.heap.size,af,.cells (bE m f c2) 5 (0,0)⟩:=by
        unfold aC;rw[Jz,show m+(c2-m)=c2 by omega];rfl
       rw[fu _ _ _ _ hl,fw _ _ (by rw[hl];exact hq)];simp only[lits,e];refine(S.new cz (cY _) u_).perm ?_;rw[bW];exact kH.symm
    ·exact h.elim
   ·exact h.elim
  ·exact h.elim
 ·exact h.elim
def O7 (fr:Sd.aO->Nat×Sd.ax):List (bK (LG fr)):=⟨50,af,O5⟩::qL (LG fr) [Xx,Xy,Xz,NK]
def afl:aH prog cJ (O7 fr):=aH.cons avH (kA (bP.cons (avB _) (bP.cons (avC _) (bP.cons (avD _) (bP.cons (adi _) bP.nil)))))
def avI (p:Sd.aU) (kn d:Nat->Nat):List V:=(bo 56).map λo=>bif bZ 5 o&&bZ o 8 then .sl (o-4) 0 (kn (o-5)) (kn (o-5)+d (o-5))else .int .i64 (p.i o)
def XC:List V:=[.int .i64 0,.bool ag]++n_ 8 (.int .u8 0)
def XD (p:Sd.aU) (kn d:Nat->Nat):List V:=avI p kn d++(dm (Sd.Tok.new p)++(.ptr 5 0::(XC++(XC++(XC++([.ptr 6 0,.int .i64 0,.int .i64 0,.int .i64 (p.i 39)]++(nN ⟨2,4,0⟩++(yq ⟨1,⟨0,0,0,0⟩,⟨0,0,0,0⟩,⟨2,4,0⟩⟩++[.cv .u8 32 λ_=>0]))))))))
def O8 (p:Sd.aU) (kn d:Nat->Nat) (kf:Nat->Nat->Int):List VB:=[⟨af,⟨131,(0,0)⟩,XD p kn d⟩,gL (kn 0) (d 0) (kf 0),gL (kn 1) (d 1) (kf 1),gL (kn 2) (d 2) (kf 2),gL (kn 3) (d 3) (kf 3),
 ⟨af,⟨170,(0,0)⟩,[.raw (.slice ae 0 0),.int .i64 (p.i 48),.int .u64 0]⟩,fg (F9 p)]
def O9 (u:aj) (xa:Nat->aI) (kn kc:Nat->Nat) (i:Nat) (X:(Nat->Int)->Nat->Prop):Prop:=∃f,(jc u (aa (xa i)) (kn i) (kc i) f/\kn i<=1000000/\0<kn i)/\∀d,X f d
def O_ (p:Sd.aU) (xa:Nat->aI) (kn kc:Nat->Nat):Int:=nO (λi=>iN (nth (fM p (λi=>aa (xa i)) kn kc) i)) (λj=>F7 (nth (fM p (λi=>aa (xa i)) kn kc) (j+5)))
def avJ (p:Sd.aU) (xa:Nat->aI) (kn kc:Nat->Nat):O_ p xa kn kc=nO p.i kn:=kR
def GN (u:aj) (p:Sd.aU) (xa:Nat->aI) (kn kc:Nat->Nat) (K:VK (LG fr)):Prop:=True/\cond (O_ p xa kn kc !=0) (K (.ay [.raw (.pointer ae),.int .i64 (O_ p xa kn kc)]) [] [.bj u])
 (cond (decide (p.i 48<1)) (K (.ay [.raw (.pointer ae),.int .i64 1]) [] [.bj u]) (cond (decide (p.i 48>64)) (K (.ay [.raw (.pointer ae),.int .i64 1]) [] [.bj u])
  (O9 u xa kn kc 0 λf0 d0=>O9 u xa kn kc 1 λf1 d1=>O9 u xa kn kc 2 λf2 d2=>O9 u xa kn kc 3 λf3 d3=>True/\True/\True/\True/\K (.ay [.ptr 0 0,.int .i64 0]) (O8 p kn (λj=>[d0,d1,d2,d3].getD j 0) λj=>[f0,f1,f2,f3].getD j f0) [.bj u])))
def avK (u:aj) (p:Sd.aU) (xa:Nat->aI) (kn kc:Nat->Nat) (K:VK (LG fr)):br (gy prog cJ (O7 fr) (J1 prog) XB) 60 32 [.agg (fM p (λi=>aa (xa i)) kn kc)] [] [.bj u] (bA 0 K)=GN u p xa kn kc K:=kR
def KN (u:aj) (p:Sd.aU) (kn:Nat->Nat) (kf:Nat->Nat->Int):VK (LG fr):=λv b ch=>∃d,v=.ay [.ptr 0 0,.int .i64 0]/\b=O8 p kn d kf/\ch=[.bj u]
def avL {u:aj} {p:Sd.aU} {xa:Nat->aI} {kn kc:Nat->Nat} {kf:Nat->Nat->Int} (h:nO p.i kn=0) (hk:∀i,i<4->dM u (aa (xa i)) (kn i) (kc i) (kf i)) (h1:∀i,i<4->0<kn i):GN (fr:=fr) u p xa kn kc (KN u p kn kf):=by
 have hc:O_ p xa kn kc=0:=(avJ p xa kn kc).trans h;have hq:=anC h;refine⟨trivial,aJ (λe=>absurd hc (by simpa using e)) λ_=>aJ (λe=>absurd (of_decide_eq_true e) oM) λ_=>aJ (λe=>absurd (of_decide_eq_true e) oM) λ_=>?_⟩;exact⟨kf 0,⟨(hk 0 oM).2,(hk 0 oM).1,h1 0 oM⟩,λd0=>⟨kf 1,⟨(hk 1 oM).2,(hk 1 oM).1,h1 1 oM⟩,λd1=>⟨kf 2,⟨(hk 2 oM).2,(hk 2 oM).1,h1 2 oM⟩,λd2=>⟨kf 3,⟨(hk 3 oM).2,(hk 3 oM).1,h1 3 oM⟩,
  λd3=>⟨trivial,trivial,trivial,trivial,λj=>[d0,d1,d2,d3].getD j 0,rfl,rfl,rfl⟩⟩⟩⟩⟩
def avM (p:Sd.aU) (kn d:Nat->Nat) (b k0 k1 k2 k3 bq bt:Nat):aC [b,k0,k1,k2,k3,bq,bt] b ⟨af,⟨131,(0,0)⟩,XD p kn d⟩=⟨b,af,.cells (tH p (λi=>aa ⟨[k0,k1,k2,k3].getD i 0,0,ae⟩) kn (λi=>kn i+d i) (⟨4,(p.i 55),(-1),(⟨0,0⟩:Sd.Timer),(⟨0,0⟩:Sd.Timer),ag⟩:Sd.Tok) bq
 (f3 (⟨(0:Int),ag,(λ_=>0)⟩:Sd.eS) (⟨(0:Int),ag,(λ_=>0)⟩:Sd.eS) (⟨(0:Int),ag,(λ_=>0)⟩:Sd.eS)) bt (0:Int) (0:Int) (p.i 39) (⟨2,4,0⟩:Sd.Label) (⟨1,(⟨0,0,0,0⟩:Sd.X4),(⟨0,0,0,0⟩:Sd.X4),(⟨2,4,0⟩:Sd.Label)⟩:Sd.fj) (λ_=>0)) 131 (0,0)⟩:=kR
def avN (p:Sd.aU) (ka:Nat->Option aI) (kn kc:Nat->Nat) (kf:Nat->Nat->Int) (h:nO p.i kn=0) (w:aj) (hk:∀i,i<4->dM w (ka i) (kn i) (kc i) (kf i)):
 aX prog 32 #[.agg (lg p ka kn kc)] w λv w1=>∃(b bq bt:Nat) (xa:Nat->Option aI) (xc:Nat->Nat) (B:Nat->List ao),v=.tuple #[.pointer (aa ⟨b,0,ae⟩),.int .i64 0]/\(∀i,i<4->eQ 5 (kn i) (kf i) (xa i) (xc i) (B i))/\St [] w ([⟨b,af,.cells (tH p xa kn xc (⟨4,(p.i 55),(-1),(⟨0,0⟩:Sd.Timer),(⟨0,0⟩:Sd.Timer),ag⟩:Sd.Tok) bq (f3 (⟨(0:Int),ag,(λ_=>0)⟩:Sd.eS) (⟨(0:Int),ag,(λ_=>0)⟩:Sd.eS) (⟨(0:Int),ag,(λ_=>0)⟩:Sd.eS)) bt (0:Int) (0:Int) (p.i 39) (⟨2,4,0⟩:Sd.Label) (⟨1,(⟨0,0,0,0⟩:Sd.X4),(⟨0,0,0,0⟩:Sd.X4),(⟨2,4,0⟩:Sd.Label)⟩:Sd.fj) (λ_=>0)) 131 (0,0)⟩,⟨bq,af,.cells #[.slice ae 0 0,.int .i64 (p.i 48),.int .u64 0] 170 (0,0)⟩,⟨bt,af,.cells (ki (ag,(⟨(0:Int),(0:Int)⟩:Sd.Timer)) (f3 (⟨ag,⟨(0:Int),(0:Int)⟩,(0:Int),(λ_=>0),⟨ag,(0:Int),(0:Int)⟩⟩:Sd.gw) (⟨ag,⟨(0:Int),(0:Int)⟩,(0:Int),(λ_=>0),⟨ag,(0:Int),(0:Int)⟩⟩:Sd.gw) (⟨ag,⟨(0:Int),(0:Int)⟩,(0:Int),(λ_=>0),⟨ag,(0:Int),(0:Int)⟩⟩:Sd.gw)) (p.i 42) (p.i 49)) 181 (0,0)⟩]++(B 0++(B 1++(B 2++(B 3++[]))))) w1:=by
 have zz:∀i,i<4->0<kn i:=by
  have:(AA kn&&uL (kn 3))=af:=by
   cases e:(AA kn&&uL (kn 3))with
   |true=>rfl
   |false=>exfalso;unfold nO at h;repeat' split at h
           all_goals first|omega|(rename_i UO;simp[e]at UO)
  simp only[AA,uL,bD,decide_eq_true_eq]at this;intro i hi
  match i,hi with
  |0,_=>omega
  |1,_=>omega
  |2,_=>omega
  |3,_=>omega
  |i+4,h=>exact absurd h oM
 have hx:∀i,∃x,i<4->ka i=aa x:=by
  intro i;by_cases hi:i<4
  ·cases e:ka i with
   |none=>have:=((hk i hi).2.2.1 e).1;have:=zz i hi;omega
   |some x=>exact⟨x,λ_=>rfl⟩
  ·exact⟨⟨0,0,ae⟩,λh=>absurd h hi⟩
 let ya:Nat->aI:=λi=>Classical.choose (hx i)
 have hy:∀i,i<4->ka i=aa (ya i):=λi=>Classical.choose_spec (hx i);have e0:#[Value.agg (lg p ka kn kc)]=(aE [] [.agg (fM p (λi=>aa (ya i)) kn kc)]).toArray:=by
  have e1:lg p ka kn kc=lg p (λi=>aa (ya i)) kn kc:=by
   unfold lg;rw[hy 0 oM,hy 1 oM,hy 2 oM,hy 3 oM]
  exact(congrArg (λx=>#[Value.agg x]) e1).trans kR
 rw[e0];have hv:Hd (br (gy prog cJ (O7 λ_=>(0,λ_=>0)) (J1 prog) XB) 60 32 [.agg (fM p (λi=>aa (ya i)) kn kc)] [] [.bj w] (bA 0 (KN w p kn kf))):=⟨by rw[avK];exact avL h (λi hi=>by rw[<-hy i hi];exact hk i hi) zz⟩;have hr:=afk (C:=gy prog cJ (O7 λ_=>(0,λ_=>0)) (J1 prog) XB) afl.T afl.Q rfl hv (Y:=[]) (show St [] w (au [LG.bj w] []) w from aa_ w);clear hv;refine hr.mono ?_;rintro v w' ⟨y,more,bl',ch',rfl,hl1,S',hK⟩;obtain⟨v2,cn,bl2,e,cX,S2,d,rfl,rfl,rfl⟩:=iP (n0:=0) (ids:=more) hl1 sP S' hK
 match cn,cX,e,S2 with
 |[b,k0,k1,k2,k3,bq,bt],_,e,S2=>
  refine⟨b,bq,bt,λi=>aa ⟨[k0,k1,k2,k3].getD i 0,0,ae⟩,λi=>kn i+d i,λi=>[⟨[k0,k1,k2,k3].getD i 0,af,.cells (bE (kn i) (kf i) (kn i+d i)) 5 (0,0)⟩],e,λi hi=>⟨YI _ _,.inr ⟨_,rfl,rfl⟩⟩,?_⟩;have Pa:∀(ids:List Nat) (k i:Nat),aC ids k (gL (kn i) (d i) (kf i))=⟨k,af,.cells (bE (kn i) (kf i) (kn i+d i)) 5 (0,0)⟩:=λids k i=>by unfold aC;rw[Jz];rfl
  have el:lits [b,k0,k1,k2,k3,bq,bt] [b,k0,k1,k2,k3,bq,bt] (O8 p kn d kf)=aC [b,k0,k1,k2,k3,bq,bt] b ⟨af,⟨131,(0,0)⟩,XD p kn d⟩::([aC [b,k0,k1,k2,k3,bq,bt] k0 (gL (kn 0) (d 0) (kf 0)),aC [b,k0,k1,k2,k3,bq,bt] k1 (gL (kn 1) (d 1) (kf 1)),aC [b,k0,k1,k2,k3,bq,bt] k2 (gL (kn 2) (d 2) (kf 2)),
   aC [b,k0,k1,k2,k3,bq,bt] k3 (gL (kn 3) (d 3) (kf 3))]++[⟨bq,af,.cells #[.slice ae 0 0,.int .i64 (p.i 48),.int .u64 0] 170 (0,0)⟩,aC [b,k0,k1,k2,k3,bq,bt] bt (fg (F9 p))]):=rfl
  rw[Pa,Pa,Pa,Pa,J0,avM]at el;have S3:=S2.sub (List.sublist_append_left _ _);have S4:St [] w (lits [b,k0,k1,k2,k3,bq,bt] [b,k0,k1,k2,k3,bq,bt] (O8 p kn d kf)) w':=S3;rw[el]at S4;exact S4.perm (vh _ List.perm_append_comm)
def afm (i:Nat) (v:V):Bool:=match v with
 |.int .i64 _=>!kF i
 |.sl _ 0 _ _=>kF i
 |_=>ag
def zf:List V->Nat->Bool
 |[],i=>aA i 56
 |v::l,i=>afm i v&&zf l (i+1)
def sI:V->Nat|.sl i _ _ _=>i|_=>0
def sM:V->Nat|.sl _ _ n _=>n|_=>0
def sK:V->Nat|.sl _ _ _ c=>c|_=>0
def Ds (ids:List Nat) (i:Nat) (v:V):ai:=bif kF i then .slice (aa ⟨ids.getD (sI v) 0,0,ae⟩) (sM v) (sK v)else .int .i64 (iN v)
def afn (ids:List Nat):∀(l:List V) (i:Nat),zf l i=af->i+l.length=56/\ak ids l=(bo l.length).map λj=>Ds ids (i+j) (nth l j)
 |[],i,h=>⟨ck h,rfl⟩
 |v::l,i,h=>by
  unfold zf at h;rw[bD]at h;obtain⟨h1,h2⟩:=afn ids l (i+1) h.2;refine⟨by simp;omega,?_⟩;rw[jf,tZ,gb,l5];simp only[ak,h2];have e:ak ids l=(bo l.length).map ((λj=>Ds ids (i+j) (nth (v::l) j))∘Nat.succ):=by
   rw[h2];apply ni;intro j _;show Ds ids (i+1+j) (nth l j)=Ds ids (i+(j+1)) (nth l j);rw[show i+1+j=i+(j+1) by omega]
  rw[<-h2,e];have hv:cl v (den ids v)=[Ds ids (i+0) (nth (v::l) 0)]:=by
   have h3:=h.1;unfold afm at h3;split at h3
   ·have:kF i=ag:=by simpa using h3
    simp only[cl,den,lD,lE,kX,Ds,lA,this,cond_false,iN]
   ·simp only[cl,den,lD,lE,kX,Ds,lA,h3,cond_true,sI,sM,sK]
   ·cases h3
  rw[hv];rfl
def F_ (ids:List Nat) (l:List V) (j:Nat):Option aI:=aa ⟨ids.getD (sI (nth l (j+5))) 0,0,ae⟩
def ku (l:List V) (j:Nat):Nat:=sM (nth l (j+5))
def zg (l:List V) (j:Nat):Nat:=sK (nth l (j+5))
def nP (l:List V) (f:Nat->Sd.ax):Sd.aU:=⟨λi=>iN (nth l i),λj=>(ku l j,f j)⟩
def afo {l:List V} (h:zf l 0=af) (f:Nat->Sd.ax) (ids:List Nat):(ak ids l).toArray=lg (nP l f) (F_ ids l) (ku l) (zg l):=by
 obtain⟨h1,h2⟩:=afn ids l 0 h;rw[h2,show l.length=56 by omega];rfl
def Ga (bl:List VB) (v:V):Option (Nat×Sd.ax):=match v with
 |.sl i _ _ _=>(match bl[i]?with|some ⟨_,⟨5,(0,0)⟩,.cv .u8 m f::_⟩=>aa (m,f)|_=>ae)
 |_=>ae
def mkK (l:List V) (f:Nat->Sd.ax) (ka:Nat->Option aI) (kc:Nat->Nat) (bq tg tc:Nat):LK:=⟨ka,ku l,kc,f,bq,tg,tc,iN (nth l 48),ae,0,0,λ_=>0⟩
def mA (p:Sd.aU):Sd.ah:=⟨.new p,[],[]⟩
structure Pb (l:List V) (n:Nat->Nat):Prop where
 code:nO (λi=>iN (nth l i)) (ku l)=0
 n:∀j,j<4->n j=ku l j
 k:∀j,j<4->ku l j<=64/\ku l j<=zg l j
structure J2 (l:List V) (f:Nat->Sd.ax) (tg tc:Nat) (p:Sd.aU) (k:LK):Prop where
 eq:p=nP l f
 kn:k.kn=ku l
 kf:k.kf=f
 tg:k.tg=tg
 tc:k.tc=tc
 most:k.most=p.queue
 qq:k.px=ae/\k.pn=0/\k.pc=0
def XE:dk (LG fr):=λargs bl ch K=>match args,ch,bl with
 |[.agg l],.bj u::rest,⟨w0,⟨tg,(0,0)⟩,c0⟩::⟨w1,⟨tc,(0,0)⟩,c1⟩::bl2=>(match Ga (⟨w0,⟨tg,(0,0)⟩,c0⟩::⟨w1,⟨tc,(0,0)⟩,c1⟩::bl2) (nth l 5),Ga (⟨w0,⟨tg,(0,0)⟩,c0⟩::⟨w1,⟨tc,(0,0)⟩,c1⟩::bl2) (nth l 6),Ga (⟨w0,⟨tg,(0,0)⟩,c0⟩::⟨w1,⟨tc,(0,0)⟩,c1⟩::bl2) (nth l 7),Ga (⟨w0,⟨tg,(0,0)⟩,c0⟩::⟨w1,⟨tc,(0,0)⟩,c1⟩::bl2) (nth l 8)with
  |some (n0,f0),aa (n1,f1),aa (n2,f2),aa (n3,f3)=>cond (zf l 0&&bY (bl2.length+2) (⟨w0,⟨tg,(0,0)⟩,c0⟩::⟨w1,⟨tc,(0,0)⟩,c1⟩::bl2))
   (Pb l (k4 n0 n1 n2 n3)/\∀(p:Sd.aU) (k:LK) (F:ba fr (a9 k (mA p))),J2 l (k4 f0 f1 f2 f3) tg tc p k->cj=F.vs->cj=F.vr->
    K (.ay [.ptr (bl2.length+2) 0,.int .i64 0]) (⟨w0,⟨tg,(0,0)⟩,c0⟩::⟨w1,⟨tc,(0,0)⟩,c1⟩::(bl2++[fy k (bl2.length+3) (mA p),fg (mA p)])) (.bj u::.core (a_ k (mA p) F) []::rest)) False
  |_,_,_,_=>False)
 |_,_,_=>False
def Pc {ids:List Nat} {bl:List VB} {X:List ao} {ms:List Nat} {w0 w:aj} {v:V} {m:Nat} {f:Sd.ax} (hl:ids.length=bl.length) (S:St ms w0 (lits ids ids bl++X) w) (h:Ga bl v=aa (m,f)) (hm:m<=64) {c:Nat} (hc:m<=c):dM w (aa ⟨ids.getD (sI v) 0,0,ae⟩) m c f:=by
 unfold Ga at h;split at h
 ·rename_i i o n c';split at h
  ·rename_i wr m' f' r hb;obtain⟨rfl,rfl⟩:m'=m/\f'=f:=by simpa using h
   have aS:=(gx hl S hb).2;refine⟨oM,hc,(λe=>nomatch e),λx e j hj=>?_⟩;obtain rfl:⟨ids.getD i 0,0,ae⟩=x:=by simpa[sI]using e
   rw[iK,cell_of aS,dS];simp only[ak,cl,jX];rw[gm (by simpa using hj)];simp[pQ hj]
  ·cases h
 ·cases h
def avO (k:LK) (p:Sd.aU) (b bt:Nat):aC (cQ b bt) b (fy k 3 (mA p))=⟨b,af,.cells (tH p k.ka k.kn k.kc ⟨4,p.i 55,-1,⟨0,0⟩,⟨0,0⟩,ag⟩ k.bq (f3 ⟨0,ag,λ_=>0⟩ ⟨0,ag,λ_=>0⟩ ⟨0,ag,λ_=>0⟩) bt 0 0 (p.i 39) ⟨2,4,0⟩ ⟨1,⟨0,0,0,0⟩,⟨0,0,0,0⟩,⟨2,4,0⟩⟩ (λ_=>0)) 131 (0,0)⟩:=kR
def avP (p:Sd.aU) (bt:Nat):aC [] bt (fg (mA p))=⟨bt,af,.cells (ki (ag,⟨0,0⟩) (f3 ⟨ag,⟨0,0⟩,0,(λ_=>0),⟨ag,0,0⟩⟩ ⟨ag,⟨0,0⟩,0,(λ_=>0),⟨ag,0,0⟩⟩ ⟨ag,⟨0,0⟩,0,(λ_=>0),⟨ag,0,0⟩⟩) (p.i 42) (p.i 49)) 181 (0,0)⟩:=kR
def avQ:Sound prog gS 32 (XE (fr:=fr)):=by
 intro args ids bl ch R ms w0 w K hg hl S hc;unfold XE at hc;split at hc
 ·rename_i l u rest Pd tg c0 Pe tc c1 bl2;split at hc
  ·rename_i n0 y0 n1 y1 n2 y2 n3 y3 e0 e1 e2 e3;cases hq:zf l 0&&bY (bl2.length+2) (⟨Pd,⟨tg,(0,0)⟩,c0⟩::⟨Pe,⟨tc,(0,0)⟩,c1⟩::bl2)with
   |false=>rw[hq]at hc;exact hc.elim
   |true=>
    rw[hq]at hc;simp only[bD]at hq;obtain⟨⟨avR,hn,hk⟩,hK⟩:=hc;have m0:n0=ku l 0:=hn 0 dC;have m1:n1=ku l 1:=hn 1 dC;have m2:n2=ku l 2:=hn 2 dC;have m3:n3=ku l 3:=hn 3 dC;have AJ:∀i,i<4->dM w (F_ ids l i) (ku l i) (zg l i) (k4 y0 y1 y2 y3 i):=by
     intro i hi
     match i,hi with
     |0,_=>subst m0;exact Pc hl S e0 (hk 0 dC).1 (hk 0 dC).2
     |1,_=>subst m1;exact Pc hl S e1 (hk 1 dC).1 (hk 1 dC).2
     |2,_=>subst m2;exact Pc hl S e2 (hk 2 dC).1 (hk 2 dC).2
     |3,_=>subst m3;exact Pc hl S e3 (hk 3 dC).1 (hk 3 dC).2
     |i+4,h=>exact absurd h oM
    have cN:(aE ids [.agg l]).toArray=#[.agg (lg (nP l (k4 y0 y1 y2 y3)) (F_ ids l) (ku l) (zg l))]:=by
     simp only[aE,den,afo hq.1 (k4 y0 y1 y2 y3) ids]
    rw[cN];refine(avN (nP l (k4 y0 y1 y2 y3)) (F_ ids l) (ku l) (zg l) (k4 y0 y1 y2 y3) avR w AJ).mono ?_;rintro v w' ⟨b,bq,bt,xa,xc,B,rfl,hr,T⟩;have S2:=S.beside T (Wr.app (Wr.cons rfl (Wr.cons rfl (Wr.cons rfl Wr.nil))) (Wr.app (hr 0 dC).wr (Wr.app (hr 1 dC).wr (Wr.app (hr 2 dC).wr (Wr.app (hr 3 dC).wr Wr.nil)))))
    let k:LK:=mkK l (k4 y0 y1 y2 y3) xa xc bq tg tc
    let s:Sd.ah:=mA (nP l (k4 y0 y1 y2 y3))
    let F:ba fr (a9 k s):=⟨ae,0,ae,0,[⟨bq,af,.cells #[.slice ae 0 0,.int .i64 k.most,.int .u64 0] 170 (0,0)⟩],[],[],[],B 0++(B 1++(B 2++(B 3++[]))),[],⟨[],ae,0,0,[],rfl,uf _ _,trivial,rfl⟩,uf 6 64,uf 2 61,.nil,⟨B 0,B 1,B 2,B 3,[],rfl,hr 0 dC,hr 1 dC,hr 2 dC,hr 3 dC,Qv 5⟩⟩
    have pD:ids.length=bl2.length+2:=by simpa using hl
    refine⟨_,[b,bt],_,_,?_,by simp[pD],?_,hK _ k F ⟨rfl,rfl,rfl,rfl,rfl,rfl,rfl,rfl,rfl⟩ rfl rfl⟩
    ·have h1:(ids++[b,bt]).getD (bl2.length+2) 0=b:=by rw[<-pD];simp[gd]
     simp only[den,aE,h1]
    ·have h2:(ids++[b,bt]).getD (bl2.length+3) 0=bt:=by rw[show bl2.length+3=ids.length+1 by omega];simp[gd]
     have e1:aC (ids++[b,bt]) b (fy k (bl2.length+3) s)=⟨b,af,.cells (tH (nP l (k4 y0 y1 y2 y3)) xa (ku l) xc ⟨4,(nP l (k4 y0 y1 y2 y3)).i 55,-1,⟨0,0⟩,⟨0,0⟩,ag⟩ bq (f3 ⟨0,ag,λ_=>0⟩ ⟨0,ag,λ_=>0⟩ ⟨0,ag,λ_=>0⟩) bt 0 0 ((nP l (k4 y0 y1 y2 y3)).i 39) ⟨2,4,0⟩ ⟨1,⟨0,0,0,0⟩,⟨0,0,0,0⟩,⟨2,4,0⟩⟩ (λ_=>0)) 131 (0,0)⟩:=by
      rw[Ou (a:=b) b h2];exact avO k (nP l (k4 y0 y1 y2 y3)) b bt
     have e2:aC (ids++[b,bt]) bt (fg s)=⟨bt,af,.cells (ki (ag,⟨0,0⟩) (f3 ⟨ag,⟨0,0⟩,0,(λ_=>0),⟨ag,0,0⟩⟩ ⟨ag,⟨0,0⟩,0,(λ_=>0),⟨ag,0,0⟩⟩ ⟨ag,⟨0,0⟩,0,(λ_=>0),⟨ag,0,0⟩⟩) ((nP l (k4 y0 y1 y2 y3)).i 42) ((nP l (k4 y0 y1 y2 y3)).i 49)) 181 (0,0)⟩:=by
      rw[jz (ids':=[]) (yA s)];exact avP (nP l (k4 y0 y1 y2 y3)) bt
     have e3:(⟨Pd,⟨tg,(0,0)⟩,c0⟩::⟨Pe,⟨tc,(0,0)⟩,c1⟩::(bl2++[fy k (bl2.length+3) s,fg s]))=(⟨Pd,⟨tg,(0,0)⟩,c0⟩::⟨Pe,⟨tc,(0,0)⟩,c1⟩::bl2)++[fy k (bl2.length+3) s,fg s]:=rfl;rw[e3,fu _ _ _ _ hl,fw _ _ (by rw[hl];exact hq.2)];show St ms w0 ((lits ids ids (⟨Pd,⟨tg,(0,0)⟩,c0⟩::⟨Pe,⟨tc,(0,0)⟩,c1⟩::bl2)++[aC (ids++[b,bt]) b (fy k (bl2.length+3) s),aC (ids++[b,bt]) bt (fg s)])++(cw u++((F.B++[])++au rest R))) w';rw[e1,e2];have hF:F.B=⟨bq,af,.cells #[.slice ae 0 0,.int .i64 ((nP l (k4 y0 y1 y2 y3)).i 48),.int .u64 0] 170 (0,0)⟩::(B 0++(B 1++(B 2++(B 3++[])))):=rfl;rw[hF];refine S2.perm ?_;show mE (_++(_++(cw u++au rest R))) _;exact dR λf=>by simp only[dZ,j5,oc];omega
  ·exact hc.elim
 ·exact hc.elim
def XF (n:Nat):∀(l:List V) (i:Nat),nth (qA n l) i=iA n (nth l i)
 |[],_=>rfl
 |_::_,0=>rfl
 |_::l,i+1=>XF n l i
def XG {α:Type} (f:α->V):∀(l:List α) (i:Nat) (a:α),l[i]?=aa a->nth (l.map f) i=f a
 |[],_,_,h=>by simp at h
 |x::l,0,a,h=>by simp at h;subst h;rfl
 |x::l,i+1,a,h=>XG f l i a (by simpa using h)
section
variable(n:Nat) (p:Nat->Int) (kn d:Nat->Nat)
abbrev jE:List V:=qA n (O1 p kn d)
def afp {i:Nat} (hi:i<56) (hk:kF i=ag):iN (nth (jE n p kn d) i)=p i:=by
 unfold jE;rw[XF,O1,XG _ _ i i (by rw[pQ hi]),hk];rfl
def afq {j:Nat} (hj:j<4):nth (jE n p kn d) (j+5)=.sl (j+n) 0 (kn j) (kn j+d j):=by
 unfold jE;rw[XF,O1,XG _ _ (j+5) (j+5) (by rw[pQ oM])];have hk:kF (j+5)=af:=by
  match j,hj with
  |0,_=>rfl
  |1,_=>rfl
  |2,_=>rfl
  |3,_=>rfl
  |j+4,h=>exact absurd h oM
 rw[hk,Nat.add_sub_cancel];rfl
def Pf {j:Nat} (hj:j<4):ku (jE n p kn d) j=kn j:=by unfold ku;rw[afq _ _ _ _ hj];rfl
def avS {j:Nat} (hj:j<4):zg (jE n p kn d) j=kn j+d j:=by unfold zg;rw[afq _ _ _ _ hj];rfl
end
def avT (x:Int):0<=bits .and .i64 x 15/\bits .and .i64 x 15<=15:=by
 have:=sG .i64 x 15 16 4 dC dC dC;omega
def avU (x:Int):0<=bits .and .i64 x 31/\bits .and .i64 x 31<=31:=by
 have:=sG .i64 x 31 32 5 dC dC dC;omega
def avV (x:Int):0<=bits .and .i64 x 65535/\bits .and .i64 x 65535<=65535:=by
 have:=sG .i64 x 65535 65536 16 dC dC dC;omega
def XH (x:Int):qm (bits .and .i64 x 14)=af:=by
 rw[aqV];simp only[qm,kC,bD,decide_eq_true_eq,beq_iff_eq];omega
def one_mod (a:Int) {m:Int} (h:0<m) (h2:m<=1000000):i64.wrap (1+dY a m)=1+dY a m:=by
 have:=JX a h h2;exact pH oM
def Dr.perm {q:Nat->Int} {o1 o2 o3:Int} (h:Dr q o1 o2 o3):(o1=1/\o2=2/\o3=3)\/(o1=1/\o2=3/\o3=2)\/(o1=2/\o2=1/\o3=3)\/(o1=2/\o2=3/\o3=1)\/(o1=3/\o2=1/\o3=2)\/(o1=3/\o2=2/\o3=1):=by
 rcases h with⟨_,⟨_,a,b,c⟩|⟨_,a,b,c⟩⟩|⟨_,⟨_,a,b,c⟩|⟨_,a,b,c⟩⟩|⟨_,⟨_,a,b,c⟩|⟨_,a,b,c⟩⟩<;>subst a b c<;>simp
def avW {q:Nat->Int} {kn:Nat->Nat} (hp:(q 1=1/\q 2=2/\q 3=3)\/(q 1=1/\q 2=3/\q 3=2)\/(q 1=2/\q 2=1/\q 3=3)\/(q 1=2/\q 2=3/\q 3=1)\/(q 1=3/\q 2=1/\q 3=2)\/(q 1=3/\q 2=2/\q 3=1))
 (h0:q 0=0/\q 4=4/\q 9=1/\q 13=0/\q 50=0) (hk:∀j,j<4->1<=kn j/\kn j<=64) (hr:qm (q 10)=af/\qm (q 11)=af/\qm (q 12)=af) (ht:∀i,14<=i->i<=33->0<=q i/\q i<=15) (hg:∀i,34<=i->i<=38->0<=q i/\q i<=31)
 (hm:∀i,39<=i->i<=41->0<=q i/\q i<=4) (hs:∀i,42<=i->i<=46->1<=q i/\q i<=1000) (hb:0<=q 47/\q 47<=1000) (hq:∀i,48<=i->i<=49->1<=q i/\q i<=3) (hl:∀i,51<=i->i<=53->0<=q i/\q i<=1000) (ha:1<=q 54/\q 54<=1000) (he:0<=q 55/\q 55<=65535):
 nO q kn=0/\∀ks,Sd.fF ⟨q,ks⟩:=by
 obtain⟨z0,z4,z9,z13,z50⟩:=h0;have wC:∀{lo hi n:Int},lo<=n/\n<=hi->kC lo hi n=af:=λh=>by simp[kC,h.1,h.2]
 have avX:Iy q=af:=by
  rcases hp with⟨a,b,c⟩|⟨a,b,c⟩|⟨a,b,c⟩|⟨a,b,c⟩|⟨a,b,c⟩|⟨a,b,c⟩<;>simp[Iy,rP,z0,z4,a,b,c]
 have AJ:(AA kn&&uL (kn 3))=af:=by
  have:=hk 0 dC;have:=hk 1 dC;have:=hk 2 dC;have:=hk 3 dC
  simp only[AA,uL,bD,decide_eq_true_eq];omega
 have avY:(q 9==1&&(q 13==0&&CF q))=af:=by simp[CF,z9,z13,hr]
 have avZ:Iz q=af:=by
  simp only[Iz,allI,bD];refine⟨?_,?_,?_,?_,?_⟩<;>refine⟨?_,?_,?_,?_,trivial⟩<;>exact wC (ht _ dC dC)
 have JO:allI 0 31 [q 34,q 35,q 36,q 37,q 38]=af:=by
  simp only[allI,bD];refine⟨?_,?_,?_,?_,?_,trivial⟩<;>exact wC (hg _ dC dC)
 have hmo:allI 0 4 [q 39,q 40,q 41]=af:=by
  simp only[allI,bD];refine⟨?_,?_,?_,trivial⟩<;>exact wC (hm _ dC dC)
 have hti:allI 1 1000 [q 42,q 43,q 44,q 45]=af:=by
  simp only[allI,bD];refine⟨?_,?_,?_,?_,trivial⟩<;>exact wC (hs _ dC dC)
 have fE:(kC 1 1000 (q 46)&&kC 0 1000 (q 47))=af:=by rw[wC (hs 46 dC dC),wC hb];rfl
 have B9:allI 1 3 [q 48,q 49]=af:=by
  simp only[allI,bD];refine⟨?_,?_,trivial⟩<;>exact wC (hq _ dC dC)
 have Xi:(q 50==0&&(allI 0 1000 [q 51,q 52,q 53]&&kC 1 1000 (q 54)))=af:=by
  rw[z50,wC ha];simp only[allI,bD];refine⟨dC,⟨?_,?_,?_,trivial⟩,trivial⟩<;>exact wC (hl _ dC dC)
 refine⟨?_,λks=>?_⟩
 ·unfold nO;rw[avX,AJ,avY,avZ,JO,hmo,hti,fE,B9,Xi,wC he];rfl
 ·refine⟨z0,z4,hp,hm 39 dC dC,hm 40 dC dC,hm 41 dC dC,hs 42 dC dC,hs 43 dC dC,hs 44 dC dC,hs 45 dC dC,hs 46 dC dC,hb,hq 48 dC dC,hq 49 dC dC,?_,ha,he⟩;intro c hc;show 0<=q (50+c)/\q (50+c)<=1000
  match c,hc with
  |0,_=>rw[z50];decide
  |1,_=>exact hl 51 dC dC
  |2,_=>exact hl 52 dC dC
  |3,_=>exact hl 53 dC dC
  |c+4,h=>exact absurd h oM
structure Dt (p:Nat->Int) (o1 o2 o3:Int) (q:Nat->Int):Prop where
 lo:∀i,i<=4\/(9<=i/\i<=41)\/(47<=i/\i<=55)->p i=sf o1 o2 o3 q i
 ti:∀i,42<=i->i<=46->1<=p i/\p i<=1000
def av0 {o1 o2 o3:Int} {q:Nat->Int} {i:Nat} (h1:42<=i) (h2:i<=46):1<=sf o1 o2 o3 q i/\sf o1 o2 o3 q i<=1000:=by
 have:sf o1 o2 o3 q i=i64.wrap (1+dY (q i) 1000):=by
  have:i=42\/i=43\/i=44\/i=45\/i=46:=oM;rcases this with rfl|rfl|rfl|rfl|rfl<;>rfl
 rw[this,one_mod _ dC dC];have:=JX (q i) (m:=1000) dC dC;omega
def Dt.ok {p:Nat->Int} {o1 o2 o3:Int} {q:Nat->Int} (h:Dt p o1 o2 o3 q) (ho:Dr q o1 o2 o3) {kn:Nat->Nat} (hk:∀j,j<4->1<=kn j/\kn j<=64):nO p kn=0/\∀ks,Sd.fF ⟨p,ks⟩:=by
 have g:=λi hi=>h.lo i hi;have md:=λ(i:Nat) (m:Int) (h1:0<m) (h2:m<=1000000)=>JX (q i) h1 h2;refine avW ?_ ⟨g 0 dC,g 4 dC,g 9 dC,g 13 dC,g 50 dC⟩ hk ⟨?_,?_,?_⟩ ?_ ?_ ?_ h.ti ?_ ?_ ?_ ?_ ?_
 ·rw[g 1 dC,g 2 dC,g 3 dC];exact ho.perm
 ·rw[g 10 dC];exact XH _
 ·rw[g 11 dC];exact XH _
 ·rw[g 12 dC];exact XH _
 ·intro i h1 h2;rw[g i oM];have:sf o1 o2 o3 q i=bits .and .i64 (q i) 15:=by
   unfold sf;have e1:bZ i 13=ag:=by cases hb:bZ i 13 with|false=>rfl|true=>exact absurd (eO hb) oM
   have e2:bZ i 33=af:=wG h2;rw[e1,e2];rfl
  rw[this];exact avT _
 ·intro i h1 h2;rw[g i oM];have:sf o1 o2 o3 q i=bits .and .i64 (q i) 31:=by
   have:i=34\/i=35\/i=36\/i=37\/i=38:=oM;rcases this with rfl|rfl|rfl|rfl|rfl<;>rfl
  rw[this];exact avU _
 ·intro i h1 h2;rw[g i oM];have:sf o1 o2 o3 q i=dY (q i) 5:=by
   have:i=39\/i=40\/i=41:=oM;rcases this with rfl|rfl|rfl<;>rfl
  rw[this];have:=md i 5 dC dC;omega
 ·rw[g 47 dC];have:=md 47 1001 dC dC;show 0<=dY (q 47) 1001/\dY (q 47) 1001<=1000;omega
 ·intro i h1 h2;rw[g i oM];have:sf o1 o2 o3 q i=i64.wrap (1+dY (q i) 3):=by
   have:i=48\/i=49:=oM;rcases this with rfl|rfl<;>rfl
  rw[this,one_mod _ dC dC];have:=md i 3 dC dC;omega
 ·intro i h1 h2;rw[g i oM];have:sf o1 o2 o3 q i=dY (q i) 1001:=by
   have:i=51\/i=52\/i=53:=oM;rcases this with rfl|rfl|rfl<;>rfl
  rw[this];have:=md i 1001 dC dC;omega
 ·rw[g 54 dC];show 1<=i64.wrap (1+dY (q 54) 1000)/\i64.wrap (1+dY (q 54) 1000)<=1000;rw[one_mod _ dC dC];have:=md 54 1000 dC dC;omega
 ·rw[g 55 dC];exact avV _
def Pg {i:Nat} (h:i<5\/8<i):kF i=ag:=by
 unfold kF;cases h1:bZ 5 i with
 |false=>rfl
 |true=>
  cases h2:bZ i 8 with
  |false=>rfl
  |true=>have:=eO h1;have:=eO h2;omega
def Made.I {x:n5} {p:Nat->Int} {n:Nat->Nat} (h:Made x p n):Dt p (p 1) (p 2) (p 3) x.q:=
 ⟨λi hi=>h.p i oM (Pg oM),λi h1 h2=>by rw[h.p i oM (Pg oM)];exact av0 h1 h2⟩
def Dt.at {p p':Nat->Int} {o1 o2 o3:Int} {q:Nat->Int} (h:Dt p o1 o2 o3 q) (e:∀i,i<56->kF i=ag->p' i=p i):Dt p' o1 o2 o3 q:=
 ⟨λi hi=>by rw[e i oM (Pg oM)];exact h.lo i hi,λi h1 h2=>by rw[e i oM (Pg oM)];exact h.ti i h1 h2⟩
def av1 {m:Nat} {p:Nat->Int} {n d:Nat->Nat} {o1 o2 o3:Int} {q:Nat->Int} (h:Dt p o1 o2 o3 q) (ho:Dr q o1 o2 o3) (hn:∀j,j<4->1<=n j/\n j<=64):Pb (jE m p n d) n/\∀f,Sd.fF (nP (jE m p n d) f):=by
 have hb:∀j,j<4->1<=ku (jE m p n d) j/\ku (jE m p n d) j<=64:=λj hj=>by rw[Pf _ _ _ _ hj];exact hn j hj
 have h1:=(h.at (p':=λi=>iN (nth (jE m p n d) i)) (λi h1 h2=>afp m p n d h1 h2)).ok ho hb;refine⟨⟨h1.1,λj hj=>(Pf _ _ _ _ hj).symm,λj hj=>⟨(hb j hj).2,?_⟩⟩,λf=>h1.2 _⟩;rw[Pf _ _ _ _ hj,avS _ _ _ _ hj];omega
def av2 {l:List V} {f:Nat->Sd.ax} {tg tc:Nat} {p:Sd.aU} {k:LK} (hN:J2 l f tg tc p k) (h:Sd.fF (nP l f)) (hk:∀j,j<4->1<=ku l j/\ku l j<=64):eV k (mA p):=by
 obtain⟨rfl,h1,h2,h3,h4,h5,h6⟩:=hN;exact⟨Sd.Inv.new h,Sd.Ext.new,λi hi=>by rw[h1];exact hk i hi,λi hi=>by rw[h1,h2];rfl,rfl,rfl⟩
def f2 (a b:Int):Sd.ax:=λj=>match j with|0=>a|_=>b
def wD (t:aM):VB:=⟨ag,t,[.cv .u32 64 c_]⟩
def Gb (t:aM):VB:=⟨ag,t,[.bool ag,.bool ag,.bool ag,.bool ag,.bool ag,.bool ag,.bool ag,.bool ag,.bool ag,.bool ag,.bool af,.bool af]⟩
def XI (x:n5) (u:aj):Prop:=tQ x u 0/\tQ x u 1/\tQ x u 2/\tQ x u 3
def Gc (x:n5) (u:aj):Nat->Sd.ax:=k4 (lZ (x.kn 0) (dB u (x.ka 0))) (lZ (x.kn 1) (dB u (x.ka 1))) (lZ (x.kn 2) (dB u (x.ka 2))) (lZ (x.kn 3) (dB u (x.ka 3)))
def n4 (n:Nat->Nat):Nat->Nat:=k4 (n 0) (n 1) (n 2) (n 3)
section
variable(C:Sd.aL) (tg tc:aM) (u:aj) (K:VK (LG fr))
end
def XJ (P:aG):(bg->V)->Op->List VB->List (LG fr)->VK (LG fr)->Prop:=λe op bl ch K=>match op with
 |.call c=>(match c.callee,c.args.toList,c.argTypes.toList with
  |.builtin .append,[s,xs],[t,tx]=>(match P.underlying t,P.underlying tx with
   |some (.slice 5),aa (.slice _)=>(match e s,e xs,ch with
    |.sl i 0 0 0,.raw (.slice a m c),.bj u::.jr l::rest=>(jc u a m c (dB u a)/\m<=1000000)/\∀b:j_,b.n=m->b.f=dB u a->K (.raw (.slice b.x b.n b.c)) bl (.bj u::.jr (l++[b])::rest)
    |_,_,_=>False)
   |_,_=>False)
  |_,_,_=>False)
 |_=>False
def afr (l:List j_) (b:j_):ox (l++[b])=ox l++b.B:=by
 induction l with
 |nil=>simp[ox]
 |cons a l ih=>simp only[fm,ox,ih,bW]
def av3 {gl:Nat->Option Nat}:ik (G:=LG fr) prog gl (XJ prog):=by
 intro e op ids bl ch R ms w0 w K ρ o hg hl S bd ho h;unfold XJ at h;split at h
 ·rename_i c;split at h
  ·rename_i s xs t tx ff cN dU;split at h
   ·rename_i T ht gr;split at h
    ·rename_i i a m c' u l rest gE fS;obtain⟨⟨hk,hm⟩,h1⟩:=h;have uq:∀y∈cw u,y∈lits ids ids bl++au (.bj u::.jr l::rest) R:=λy hy=>by
      refine List.mem_append_right _ ?_;show y∈cw u++au (.jr l::rest) R;exact pS _ hy
     have fi:=DY (P:=prog) (⟨hm,WJ S uq hk⟩:dM w a m c' (dB u a)) gr;obtain⟨mR,ar,iO⟩:=c;simp only at ff cN dU;have e2:ar=#[s,xs]:=by rw[<-cN]
     have e3:iO=#[t,tx]:=by rw[<-dU]
     subst ff e2 e3;have j9:ρ s=.slice (aa ⟨ids.getD i 0,0,ae⟩) 0 0:=by rw[bd,gE];simp only[den]
     have oA:ρ xs=.slice a m c':=by rw[bd,fS];simp only[den]
     by_cases j8:m=0
     ·subst j8;refine⟨_,[],bl,_,w,.inl ?_,by simpa using hl,?_,h1 ⟨0,dB u a,aa ⟨ids.getD i 0,0,ae⟩,0,[],dC,.inl ⟨rfl,cY _,(λe=>nomatch e),rfl⟩⟩ rfl rfl⟩
      ·rw[jJ (P:=prog) (ρ:=ρ) (o:=o) ho j9 oA (WK (g:=dB u a) fi ht ⟨ids.getD i 0,0,ae⟩)];simp only[den,cT]
      ·have e4:au (LG.bj u::.jr (l++[⟨0,dB u a,aa ⟨ids.getD i 0,0,ae⟩,0,[],dC,.inl ⟨rfl,cY _,(λe=>nomatch e),rfl⟩⟩])::rest) R=au (LG.bj (fr:=fr) u::.jr l::rest) R:=by
        show cw u++(ox _++au rest R)=cw u++(ox l++au rest R);rw[afr,cT]
       rw[e4];simpa using S
     ·obtain⟨c2,w2,bT,cz,hle,u_⟩:=OA (g:=dB u a) (x:=a) (ty:=o.type) (t:=t) fi ht oM oM ⟨ids.getD i 0,0,ae⟩;refine⟨_,[],bl,_,w2,.inl ?_,by simpa using hl,?_,h1 ⟨m,dB u a,aa ⟨w.heap.size,0,ae⟩,c2,[⟨w.heap.size,af,.cells (bE m (dB u a) c2) 5 (0,0)⟩],hm,.inr ⟨hle,.inr ⟨_,rfl,rfl⟩⟩⟩ rfl rfl⟩
      ·rw[jJ (P:=prog) (ρ:=ρ) (o:=o) ho j9 oA bT];simp only[den]
      ·rw[cT];refine(S.new cz (cY _) u_).perm ?_;show mE (_::(lits ids ids bl++(cw u++(ox l++au rest R)))) (lits ids ids bl++(cw u++(ox (l++[_])++au rest R)));rw[afr];exact dR λf=>by simp only[dZ,j5,oc];omega
    ·exact h.elim
   ·exact h.elim
  ·exact h.elim
 ·exact h.elim
def afs (e:bg->V) (op:Op):Bool:=match op with
 |.call c=>(match c.args.toList with
  |s::_=>(match e s with|.sl _ 0 0 0=>af|_=>ag)
  |_=>ag)
 |_=>ag
def aft (op:Op):Bool:=match op with|.buildSlice _ _ _=>af|_=>ag
def Ph:(bg->V)->Op->List VB->List (LG fr)->VK (LG fr)->Prop:=λe op bl ch K=>cond (aft op) (WW prog e op bl ch K) (cond (afs e op) (XJ prog e op bl ch K) (JE prog e op bl ch K))
def XK {gl:Nat->Option Nat}:ik prog gl (Ph (fr:=fr)):=B_ (λ_ op=>aft op) at0 (B_ afs av3 W0)
def Gd {G:Type} [Bl G] (P:aG) (gl:Nat->Option Nat) (L:List (bK G)) (h:(bg->V)->Op->List VB->List G->VK G->Prop) (hok:ik P gl h) (lp:Nat->List V->Option (Lp G)):Ctx G:=⟨P,qc L,gl,s8 L,h,hok,lp,xi,zW⟩
structure fK where
 kind:Int
 src:Int
 x:Option aI
 n:Nat
 c:Nat
 s:Sd.ft
 bad:Bool
def evD (e:fK):List V:=dv e.kind e.src (.slice e.x e.n e.c) e.s e.bad
def jF (es:Nat->fK) (j:Nat):List ai:=ak [] (evD (es j))
def mB (ty:BT) (n:Nat) (es:Nat->fK) (pre post:List ai):VB:=⟨ag,ty,[.rest pre,.iD 10 n (jF es),.rest post]⟩
def av4 (es:Nat->fK) (j:Nat):(jF es j).length=10:=rfl
def fK.cp (e:fK) (b:j_):fK:=⟨e.kind,e.src,b.x,b.n,b.c,e.s,e.bad⟩
structure Ge (u:aj) (es fq:Nat->fK) (N:Nat) (bs:List j_):Prop where
 len:bs.length=N
 each:∀j,j<N->∃b,bs[j]?=aa b/\fq j=(es j).cp b/\b.n=dp 120 (es j).n/\b.f=dB u (es j).x
def Pj:dk (LG fr):=λargs bl ch K=>match args,ch with
 |[.eW i o n c a],.bj u::rest=>(match bl[i]?with
  |some ⟨ag,ty,[.rest pre,.iD 10 n' g,.rest post]⟩=>cond (bY bl.length bl) ((∃es:Nat->fK,(g=jF es/\n'=n/\(∀j,j<n->o=pre.length)/\n<=c/\(∃tg,bl[0]?=aa (wD tg))/\∀j,j<n->jc u (es j).x (es j).n (es j).c (dB u (es j).x))/\
   ∀(fq:Nat->fK) (bs:List j_) (x:Option aI) (c' Dl:Nat) (us:List ai),Ge u es fq (dp 60 n) bs->K (.eW bl.length 0 (dp 60 n) c' x) (bl++[lx Dl 10 (dp 60 n) (jF fq) us]) (.bj u::.jr bs::rest))) False
  |_=>False)
 |_,_=>False
end
section
open Go Go.RowKit Go.BigFrame Sx Vx
def mC (w:Nat) (s:Int):List V:=(bo w).map λj=>.int .u8 (bG w (u64.wrap s) j)
def fkX (n m c:Nat) (ac cells:List V) (X:Nat->List ai->Prop):Prop:=
 (n<=c/\cD ac=c*1)/\(∀(c':Nat) (u:List ai),n+m<=c'->cD (cells++[.rest u])=c'*1->X c' u)/\(∀(c':Nat) (u:List ai),n+m<=c'->cD (cells++[.rest u])=c'*1->X c' u)
def Gf (F:Prop) (E:Nat->Nat->List V->List ai->Prop):List (Int×Int×Int×Nat)->Nat->Nat->List V->List V->List ai->Prop
 |[],n,c,ac,cells,u=>E n c cells u
 |(s,lo,hi,w)::fs,n,c,ac,cells,u=>cond (decide (s<lo)) F (cond (decide (s>hi)) F (cond (kP (u64.wrap s) (dG (2^(8*w)))!=0) F
  (fkX n w c ac (cells++mC w s) λc' u'=>Gf F E fs (n+w) c' (cells++mC w s++[.rest u']) (cells++mC w s) u')))
def qH (k a b c d e:Int) (nc:Nat->Int):V:=.agg [.int .i64 k,.int .i64 a,.int .i64 b,.int .i64 c,.int .i64 d,.int .i64 e,.cv .u8 8 nc]
def zh (x:V) (K:VK Empty):Prop:=br (gy prog (λ_=>ae) ([]:List (bK Empty)) (EA prog) Hx) 60 165 [x] [] [] (bA 0 K)
def zi (k:Int) (fs:List (Int×Int×Int×Nat)) (K:VK Empty):Prop:=Gf (K (.ay [.raw (.slice ae 0 0),.int .i64 1]) [] []) (λn c cells u=>K (.ay [.sl 0 0 n c,.int .i64 0]) [⟨af,⟨5,(0,0)⟩,cells++[.rest u]⟩] []) fs 1 1 [.int .u8 k] [.int .u8 k] []
def av5 (s:Int) (K:VK Empty):zh (qH 131 s 0 0 0 0 λ_=>0) K=zi 131 [(s,0,4294967295,4)] K:=kR
def av6 (a b c:Int) (K:VK Empty):zh (qH 130 0 a b c 0 λ_=>0) K=zi 130 [(a,0,3,1),(b,0,4,1),(c,0,65535,2)] K:=kR
def av7 (s c:Int) (K:VK Empty):zh (qH 132 s 0 0 0 c λ_=>0) K=zi 132 [(s,0,4294967295,4),(c,0,255,1)] K:=kR
def av8 (e:Int) (K:VK Empty):zh (qH 133 0 0 0 e 0 λ_=>0) K=zi 133 [(e,0,65535,2)] K:=kR
def av9 (w e:Int) (K:VK Empty):zh (qH 134 0 0 w e 0 λ_=>0) K=zi 134 [(w,0,4,1),(e,0,65535,2)] K:=kR
def av_ (w e:Int) (K:VK Empty):zh (qH 135 0 0 w e 0 λ_=>0) K=zi 135 [(w,0,4,1),(e,0,65535,2)] K:=kR
def awa (w c:Int) (K:VK Empty):zh (qH 136 0 0 w 0 c λ_=>0) K=zi 136 [(w,0,4,1),(c,0,255,1)] K:=kR
def awb (a b:List V):cD (a++b)=cD a+cD b:=by
 induction a with
 |nil=>simp[cD]
 |cons v a ih=>simp only[fm,cD,ih];omega
def awc (w:Nat) (s:Int):cD (mC w s)=w:=by
 have h:∀l:List Nat,cD (l.map λj=>V.int .u8 (bG w (u64.wrap s) j))=l.length:=by
  intro l;induction l with
  |nil=>rfl
  |cons j l ih=>simp only[gb,cD,ih,jf];show 1+_=_;omega
 unfold mC;rw[h,PM]
def afu {F:Prop} {E:Nat->Nat->List V->List ai->Prop}:∀(fs:List (Int×Int×Int×Nat)) (n c:Nat) (ac cells:List V) (u:List ai),(∀f∈fs,f.2.1<=f.1/\f.1<=f.2.2.1/\0<=f.1/\f.1<18446744073709551616/\f.1<dG (2^(8*f.2.2.2)))->n<=c->cD ac=c->n=cD cells->cD (cells++[.rest u])=c->
 (∀c' u',n+(fs.map λf=>f.2.2.2).sum<=c'->cD (cells++(fs.map λf=>mC f.2.2.2 f.1).flatten++[.rest u'])=c'->E (n+(fs.map λf=>f.2.2.2).sum) c' (cells++(fs.map λf=>mC f.2.2.2 f.1).flatten) u')->Gf F E fs n c ac cells u
 |[],n,c,ac,cells,u,_,h1,h2,h3,h4,hE=>by
  have:=hE c u (by simpa using h1) (by simpa using h4);simpa[Gf]using this
 |(s,lo,hi,w)::fs,n,c,ac,cells,u,hf,h1,h2,h3,h4,hE=>by
  obtain⟨f1,f2,f3,f5,f4⟩:=hf _ (vi ..);simp only at f1 f2 f3 f4 f5;have step:∀(c':Nat) (u':List ai),n+w<=c'->cD (cells++mC w s++[.rest u'])=c'*1->Gf F E fs (n+w) c' (cells++mC w s++[.rest u']) (cells++mC w s) u':=by
   intro c' u' g1 g2;rw[Nat.mul_one]at g2;refine afu fs (n+w) c' _ _ u' (λf hm=>hf f (qQ _ hm)) g1 g2 ?_ g2 ?_
   ·rw[awb,awc,h3]
   ·intro c2 u2 g3 g4;have:=hE c2 u2 (by simpa[tY]using g3) (by simpa[bW]using g4);simpa[tY,bW]using this
  unfold Gf;refine aJ (λh=>absurd (by simpa using h:s<lo) oM) λ_=>aJ (λh=>absurd (by simpa using h:hi<s) oM) λ_=>aJ (λh=>?_) λ_=>⟨⟨h1,by rw[h2,Nat.mul_one]⟩,step,step⟩;exfalso;have e:kP (u64.wrap s) (dG (2^(8*w)))=0:=by
   have hd:∀d:Int,0<=d->s<d->kP s d=0:=λd h0 h=>by rw[Int.fdiv_eq_ediv_of_nonneg _ h0];exact Int.ediv_eq_zero_of_lt f3 h
   rw[Bm,Kt f3 oM];exact hd _ (Bg _) f4
  rw[e]at h;simp at h
def awd {k:Int} {fs:List (Int×Int×Int×Nat)} {K:VK Empty} (hf:∀f∈fs,f.2.1<=f.1/\f.1<=f.2.2.1/\0<=f.1/\f.1<18446744073709551616/\f.1<dG (2^(8*f.2.2.2)))
 (hK:∀c' u',1+(fs.map λf=>f.2.2.2).sum<=c'->cD ([.int .u8 k]++(fs.map λf=>mC f.2.2.2 f.1).flatten++[.rest u'])=c'->K (.ay [.sl 0 0 (1+(fs.map λf=>f.2.2.2).sum) c',.int .i64 0]) [⟨af,⟨5,(0,0)⟩,([.int .u8 k]++(fs.map λf=>mC f.2.2.2 f.1).flatten)++[.rest u']⟩] []):zi k fs K:=
 afu fs 1 1 _ _ [] hf (cY _) rfl rfl rfl hK
def Du {x:V} {k:Int} {fs:List (Int×Int×Int×Nat)} {n:Nat} (e:∀K,zh x K=zi k fs K) (hf:∀f∈fs,f.2.1<=f.1/\f.1<=f.2.2.1/\0<=f.1/\f.1<18446744073709551616/\f.1<dG (2^(8*f.2.2.2))) (hn:1+(fs.map λf=>f.2.2.2).sum=n) {g:Nat->Int}
 (hg:∀j,j<n->∀u:List ai,(ak [] (([.int .u8 k]++(fs.map λf=>mC f.2.2.2 f.1).flatten)++[.rest u]))[j]?=aa (.int .u8 (g j))) (hw:bu 0 (([.int .u8 k]++(fs.map λf=>mC f.2.2.2 f.1).flatten))=af) (w:aj):
 aX prog 165 (aE [] [x]).toArray w λv w1=>∃b c1,v=.tuple #[.slice (aa ⟨b,0,ae⟩) n c1,.int .i64 0]/\n<=c1/\w.heap.size<=b/\cA w1 b 0 n g/\Ch [] w w1:=by
 have h:zh x λv b _=>∃c u,v=.ay [.sl 0 0 n c,.int .i64 0]/\b=[⟨af,⟨5,(0,0)⟩,([.int .u8 k]++(fs.map λf=>mC f.2.2.2 f.1).flatten)++[.rest u]⟩]/\n<=c:=by
  rw[e];exact awd hf λc u h1 h2=>⟨c,u,by rw[hn],rfl,oM⟩
 refine(eZ (aH.nil (G:=Empty) (P:=prog) (gl:=λ_=>ae)).T (aH.nil (G:=Empty) (P:=prog) (gl:=λ_=>ae)).Q 60 (C:=gy prog (λ_=>ae) ([]:List (bK Empty)) (EA prog) Hx) (ids:=[]) (bl:=[]) (ch:=[]) (R:=[]) Gl.no rfl (St.nil [] w) h).mono ?_;rintro v w' ⟨y,more,bl',ch',rfl,h1,S',hK⟩;obtain⟨v2,cn,bl2,e2,cX,S2,c,u,rfl,rfl,hc⟩:=iP (n0:=0) h1 sP S' hK
 match cn,cX,S2,e2 with
 |[b],_,S2,e2=>
  have S3:St [] w ([aC [b] b ⟨af,⟨5,(0,0)⟩,([.int .u8 k]++(fs.map λf=>mC f.2.2.2 f.1).flatten)++[.rest u]⟩]) w':=match ch',S2 with
   |[],S2=>S2
   |e::_,_=>nomatch e
  refine⟨b,c,e2,hc,(S3.own 0 _ rfl rfl).resolve_left sP,?_,S3.ch⟩;intro j hj;have aS:w'.heap[b]?=aa (.cells (ak [b] (([.int .u8 k]++(fs.map λf=>mC f.2.2.2 f.1).flatten)++[.rest u])).toArray 5 (0,0)):=S3.at_ 0 _ rfl;have hd:=hg j hj u;have e3:ak [b] (([.int .u8 k]++(fs.map λf=>mC f.2.2.2 f.1).flatten)++[.rest u])=ak [] (([.int .u8 k]++(fs.map λf=>mC f.2.2.2 f.1).flatten)++[.rest u]):=by
   have gen:∀L:List V,bu 0 L=af->ak [b] (L++[.rest u])=ak [] (L++[.rest u]):=λL hL=>by
    rw[jK,jK];have q:=jl (ids:=[]) (more:=[b]) L hL;simp only[fQ]at q;rw[q];rfl
   exact gen _ hw
  rw[dS,cell_of aS,e3];simpa using hd
 |[],h,_,_=>simp at h
 |_::_::_,h,_,_=>simp at h
def awe (wh co:Int) (pM:0<=wh/\wh<=4) (Dv:0<=co/\co<=255) (w:aj):aX prog 165 (aE [] [qH 136 0 0 wh 0 co λ_=>0]).toArray w λv w1=>∃b c1,v=.tuple #[.slice (aa ⟨b,0,ae⟩) 3 c1,.int .i64 0]/\3<=c1/\w.heap.size<=b/\cA w1 b 0 3 (gu [136,bG 1 (u64.wrap wh) 0,bG 1 (u64.wrap co) 0])/\Ch [] w w1:=
 Du (n:=3) (λK=>awa wh co K) (λf hm=>by
  rcases cF.1 hm with rfl|hm
  ·exact⟨pM.1,pM.2,pM.1,oM,by show wh<256;omega⟩
  rcases cF.1 hm with rfl|hm
  ·exact⟨Dv.1,Dv.2,Dv.1,oM,by show co<256;omega⟩
  cases hm) rfl (λj hj u=>by
  rcases(by omega:j=0\/j=1\/j=2)with rfl|rfl|rfl<;>rfl) rfl w
def awf (sq:Int) (Dw:0<=sq/\sq<=4294967295) (w:aj):aX prog 165 (aE [] [qH 131 sq 0 0 0 0 λ_=>0]).toArray w λv w1=>∃b c1,v=.tuple #[.slice (aa ⟨b,0,ae⟩) 5 c1,.int .i64 0]/\5<=c1/\w.heap.size<=b/\cA w1 b 0 5 (gu [131,bG 4 (u64.wrap sq) 0,bG 4 (u64.wrap sq) 1,bG 4 (u64.wrap sq) 2,bG 4 (u64.wrap sq) 3])/\Ch [] w w1:=
 Du (n:=5) (λK=>av5 sq K) (λf hm=>by
  rcases cF.1 hm with rfl|hm
  ·exact⟨Dw.1,Dw.2,Dw.1,oM,by show sq<4294967296;omega⟩
  cases hm) rfl (λj hj u=>by
  rcases(by omega:j=0\/j=1\/j=2\/j=3\/j=4)with rfl|rfl|rfl|rfl|rfl<;>rfl) rfl w
def awg (ro wh ep:Int) (B9:0<=ro/\ro<=3) (pM:0<=wh/\wh<=4) (l0:0<=ep/\ep<=65535) (w:aj):aX prog 165 (aE [] [qH 130 0 ro wh ep 0 λ_=>0]).toArray w λv w1=>∃b c1,v=.tuple #[.slice (aa ⟨b,0,ae⟩) 5 c1,.int .i64 0]/\5<=c1/\w.heap.size<=b/\cA w1 b 0 5 (gu [130,bG 1 (u64.wrap ro) 0,bG 1 (u64.wrap wh) 0,bG 2 (u64.wrap ep) 0,bG 2 (u64.wrap ep) 1])/\Ch [] w w1:=
 Du (n:=5) (λK=>av6 ro wh ep K) (λf hm=>by
  rcases cF.1 hm with rfl|hm
  ·exact⟨B9.1,B9.2,B9.1,oM,by show ro<256;omega⟩
  rcases cF.1 hm with rfl|hm
  ·exact⟨pM.1,pM.2,pM.1,oM,by show wh<256;omega⟩
  rcases cF.1 hm with rfl|hm
  ·exact⟨l0.1,l0.2,l0.1,oM,by show ep<65536;omega⟩
  cases hm) rfl (λj hj u=>by
  rcases(by omega:j=0\/j=1\/j=2\/j=3\/j=4)with rfl|rfl|rfl|rfl|rfl<;>rfl) rfl w
def awh (sq co:Int) (Dw:0<=sq/\sq<=4294967295) (Dv:0<=co/\co<=255) (w:aj):aX prog 165 (aE [] [qH 132 sq 0 0 0 co λ_=>0]).toArray w λv w1=>∃b c1,v=.tuple #[.slice (aa ⟨b,0,ae⟩) 6 c1,.int .i64 0]/\6<=c1/\w.heap.size<=b/\cA w1 b 0 6 (gu [132,bG 4 (u64.wrap sq) 0,bG 4 (u64.wrap sq) 1,bG 4 (u64.wrap sq) 2,bG 4 (u64.wrap sq) 3,bG 1 (u64.wrap co) 0])/\Ch [] w w1:=
 Du (n:=6) (λK=>av7 sq co K) (λf hm=>by
  rcases cF.1 hm with rfl|hm
  ·exact⟨Dw.1,Dw.2,Dw.1,oM,by show sq<4294967296;omega⟩
  rcases cF.1 hm with rfl|hm
  ·exact⟨Dv.1,Dv.2,Dv.1,oM,by show co<256;omega⟩
  cases hm) rfl (λj hj u=>by
  rcases(by omega:j=0\/j=1\/j=2\/j=3\/j=4\/j=5)with rfl|rfl|rfl|rfl|rfl|rfl<;>rfl) rfl w
def awi (ep:Int) (l0:0<=ep/\ep<=65535) (w:aj):aX prog 165 (aE [] [qH 133 0 0 0 ep 0 λ_=>0]).toArray w λv w1=>∃b c1,v=.tuple #[.slice (aa ⟨b,0,ae⟩) 3 c1,.int .i64 0]/\3<=c1/\w.heap.size<=b/\cA w1 b 0 3 (gu [133,bG 2 (u64.wrap ep) 0,bG 2 (u64.wrap ep) 1])/\Ch [] w w1:=
 Du (n:=3) (λK=>av8 ep K) (λf hm=>by
  rcases cF.1 hm with rfl|hm
  ·exact⟨l0.1,l0.2,l0.1,oM,by show ep<65536;omega⟩
  cases hm) rfl (λj hj u=>by
  rcases(by omega:j=0\/j=1\/j=2)with rfl|rfl|rfl<;>rfl) rfl w
def awj (wh ep:Int) (pM:0<=wh/\wh<=4) (l0:0<=ep/\ep<=65535) (w:aj):aX prog 165 (aE [] [qH 134 0 0 wh ep 0 λ_=>0]).toArray w λv w1=>∃b c1,v=.tuple #[.slice (aa ⟨b,0,ae⟩) 4 c1,.int .i64 0]/\4<=c1/\w.heap.size<=b/\cA w1 b 0 4 (gu [134,bG 1 (u64.wrap wh) 0,bG 2 (u64.wrap ep) 0,bG 2 (u64.wrap ep) 1])/\Ch [] w w1:=
 Du (n:=4) (λK=>av9 wh ep K) (λf hm=>by
  rcases cF.1 hm with rfl|hm
  ·exact⟨pM.1,pM.2,pM.1,oM,by show wh<256;omega⟩
  rcases cF.1 hm with rfl|hm
  ·exact⟨l0.1,l0.2,l0.1,oM,by show ep<65536;omega⟩
  cases hm) rfl (λj hj u=>by
  rcases(by omega:j=0\/j=1\/j=2\/j=3)with rfl|rfl|rfl|rfl<;>rfl) rfl w
def awk (wh ep:Int) (pM:0<=wh/\wh<=4) (l0:0<=ep/\ep<=65535) (w:aj):aX prog 165 (aE [] [qH 135 0 0 wh ep 0 λ_=>0]).toArray w λv w1=>∃b c1,v=.tuple #[.slice (aa ⟨b,0,ae⟩) 4 c1,.int .i64 0]/\4<=c1/\w.heap.size<=b/\cA w1 b 0 4 (gu [135,bG 1 (u64.wrap wh) 0,bG 2 (u64.wrap ep) 0,bG 2 (u64.wrap ep) 1])/\Ch [] w w1:=
 Du (n:=4) (λK=>av_ wh ep K) (λf hm=>by
  rcases cF.1 hm with rfl|hm
  ·exact⟨pM.1,pM.2,pM.1,oM,by show wh<256;omega⟩
  rcases cF.1 hm with rfl|hm
  ·exact⟨l0.1,l0.2,l0.1,oM,by show ep<65536;omega⟩
  cases hm) rfl (λj hj u=>by
  rcases(by omega:j=0\/j=1\/j=2\/j=3)with rfl|rfl|rfl|rfl<;>rfl) rfl w
def Dx (nc:Nat->Int):List V:=[.int .i64 129,.int .i64 0,.int .i64 0,.int .i64 0,.int .i64 0,.int .i64 0,.int .u8 (nc 0),.int .u8 (nc 1),.int .u8 (nc 2),.int .u8 (nc 3),.int .u8 (nc 4),.int .u8 (nc 5),.int .u8 (nc 6),.int .u8 (nc 7)]
def XL (nc:Nat->Int):VB:=⟨af,⟨232,(0,0)⟩,Dx nc⟩
def A2 (j:Nat):List V:=[.int .i64 1,.int .i64 0,.int .i64 255,.fn 247 [] [.ptr j 0],.fn 248 [] [.ptr j 0]]
def awl (u:List ai):VB:=⟨af,⟨305,(0,0)⟩,A2 2++(A2 3++(A2 4++(A2 5++(A2 6++(A2 7++(A2 8++(A2 9++[.rest u])))))))⟩
def Pk:List VB:=(bo 8).map λj=>⟨af,⟨337,(0,0)⟩,[.ptr 0 (6+j)]⟩
def sh (nc:Nat->Int) (u:List ai):List VB:=XL nc::awl u::Pk
def Dy (n:Nat) (u:List ai) (c:Nat):Prop:=cD (n_ (5*n) (V.bool af)++[.rest u])=c*5
def J3 (X:Nat->List ai->Prop):Nat->Nat->Nat->List ai->Prop
 |0,_,c,u=>X c u
 |k+1,n,c,u=>(n<=c/\Dy n u c)/\(∀(c':Nat) (u':List ai),n+1<=c'->Dy (n+1) u' c'->J3 X k (n+1) c' u')/\(∀(c':Nat) (u':List ai),n+1<=c'->Dy (n+1) u' c'->J3 X k (n+1) c' u')
def afv {X:Nat->List ai->Prop}:∀(k n c:Nat) (u:List ai),n<=c->Dy n u c->(∀c u,n+k<=c->Dy (n+k) u c->X c u)->J3 X k n c u
 |0,_,c,u,h1,h2,hX=>hX c u h1 h2
 |k+1,n,c,u,h1,h2,hX=>by
  have st:∀(c':Nat) (u':List ai),n+1<=c'->Dy (n+1) u' c'->J3 X k (n+1) c' u':=λc' u' a b=>afv k (n+1) c' u' a b λc u d e=>hX c u oM (by rw[show n+(k+1)=n+1+k by omega];exact e);exact⟨⟨h1,h2⟩,st,st⟩
def J4 (n:Nat) (f:fl) (args:List V) (bl:List VB) (K:VK Empty):Prop:=br (gy prog (λ_=>ae) ([]:List (bK Empty)) (Hy prog) Me) n f args bl [] K
def si (k:Nat) (x:Int) (pre post:List ai):List VB:=[⟨ag,⟨337,(0,0)⟩,[.pe 1 k 0 1 0]⟩,⟨ag,⟨232,(0,0)⟩,[.rest pre,.iD 1 1 λ_=>[.int .u8 x],.rest post]⟩]
def XM (x:Int):Int:=u8.wrap (kP (u64.wrap (i64.wrap x)) (2^0))
def afw (k:Nat) (x:Int) (pre post:List ai) (K:VK Empty):Prop:=(k=pre.length/\0<1/\∀_:Nat,[fI .u8 x].length=1)/\cond (decide (i64.wrap x<0)) (K (.ay [.raw (.slice ae 0 0),.bool ag]) (si k x pre post) [])
 (cond (decide (i64.wrap x>255)) (K (.ay [.raw (.slice ae 0 0),.bool ag]) (si k x pre post) []) (cond (kP (u64.wrap (i64.wrap x)) (dG (2^(8*1)))!=0) (K (.ay [.raw (.slice ae 0 0),.bool ag]) (si k x pre post) [])
  (K (.ay [.sl 2 0 1 1,.bool af]) (si k x pre post++[⟨af,⟨5,(0,0)⟩,[.int .u8 (XM x)]⟩]) [])))
def awm (k:Nat) (x:Int) (pre post:List ai) (K:VK Empty):J4 60 241 [.agg [.int .i64 1,.int .i64 0,.int .i64 255,.fn 247 [] [.ptr 0 0],.fn 248 [] [.ptr 0 0]]] (si k x pre post) (bA 2 K)=afw k x pre post K:=kR
def awn {x:Int} (h:0<=x/\x<=255):XM x=x:=by
 unfold XM;rw[k7 oM,Bm,Kt oM oM];rw[show(2:Int)^0=1 from rfl,Int.fdiv_one,IntKind.wrap_u8,Kt oM oM]
def awo {k:Nat} {x:Int} {pre post:List ai} {K:VK Empty} (hk:k=pre.length) (h:0<=x/\x<=255) (hK:K (.ay [.sl 2 0 1 1,.bool af]) (si k x pre post++[⟨af,⟨5,(0,0)⟩,[.int .u8 x]⟩]) []):afw k x pre post K:=by
 have e1:i64.wrap x=x:=k7 oM;have e2:kP (u64.wrap x) (dG (2^(8*1)))=0:=by
  rw[Bm,Kt oM oM,show dG (2^(8*1))=256 from rfl,Int.fdiv_eq_ediv_of_nonneg _ oM];omega
 refine⟨⟨hk,oM,λ_=>rfl⟩,aJ (λa=>?_) λ_=>aJ (λa=>?_) λ_=>aJ (λa=>?_) λ_=>?_⟩
 ·rw[e1]at a;exact absurd (of_decide_eq_true a) oM
 ·rw[e1]at a;exact absurd (of_decide_eq_true a) oM
 ·rw[e1,e2]at a;cases a
 ·rw[awn h];exact hK
def afx {n f n0:Nat} {args:List V} {bl:List VB} {K:VK Empty} (h:ta (J4 n f args bl (bA n0 K))) {ids:List Nat} (hl:ids.length=bl.length) (hn:n0<=ids.length) {bs:List ao} {ms:List Nat} {w0 w:aj} (S:St ms w0 (lits ids ids bl++bs) w):
 aX prog f (aE ids args).toArray w λv w1=>∃x more b,v=den (ids.take n0++more) x/\(ids.take n0++more).length=b.length/\St ms w0 (lits (ids.take n0++more) (ids.take n0++more) b++bs) w1/\K x b []:=by
 refine(eZ (aH.nil (G:=Empty) (P:=prog) (gl:=λ_=>ae)).T (aH.nil (G:=Empty) (P:=prog) (gl:=λ_=>ae)).Q n (C:=gy prog (λ_=>ae) ([]:List (bK Empty)) (Hy prog) Me) (ids:=ids) (bl:=bl) (ch:=[]) (R:=bs) Gl.no hl S h.h).mono ?_;rintro v w' ⟨y,more,bl',ch',rfl,h1,S',hK⟩
 match ch',S',hK with
 |[],S',hK=>
  obtain⟨v2,cn,bl2,e,cX,S2,hK⟩:=iP (n0:=n0) h1 (by simp;omega) S' hK;rw[List.take_append_of_le_length hn]at e cX S2;exact⟨v2,cn,bl2,e,cX,S2,hK⟩
 |e::_,_,_=>nomatch e
def awp {q r k:Nat} {x:Int} {pre post:List ai} {w:aj} {f1 f2:Nat×Nat} (B3:f1=(0,0)) (B4:f2=(0,0)) (hq:w.heap[q]?=aa (.cells #[.pointer (aa ⟨r,k,ae⟩)] 337 f1)) (hr:w.heap[r]?=aa (.cells (pre++(.int .u8 x::post)).toArray 232 f2)) (hk:k=pre.length) (h:0<=x/\x<=255):
 aX prog 241 #[.agg #[.int .i64 1,.int .i64 0,.int .i64 255,.func (.func 247) #[] #[.pointer (aa ⟨q,0,ae⟩)],.func (.func 248) #[] #[.pointer (aa ⟨q,0,ae⟩)]]] w λv w1=>∃b,v=.tuple #[.slice (aa ⟨b,0,ae⟩) 1 1,.bool af]/\St [] w [⟨b,af,.cells #[.int .u8 x] 5 (0,0)⟩] w1:=by
 subst B3 B4;have S:St [] w (lits [q,r] [q,r] (si k x pre post)++[]) w:=by
  have:=St.given (w:=w) [(q,.cells #[.pointer (aa ⟨r,k,ae⟩)] 337 (0,0)),(r,.cells (pre++(.int .u8 x::post)).toArray 232 (0,0))] (by
   intro p hp;simp only[cF,qS,or_false]at hp;rcases hp with rfl|rfl
   ·exact hq
   ·exact hr)
  have e:lits [q,r] [q,r] (si k x pre post)=[⟨q,ag,.cells #[.pointer (aa ⟨r,k,ae⟩)] 337 (0,0)⟩,⟨r,ag,.cells (pre++(.int .u8 x::post)).toArray 232 (0,0)⟩]:=by
   simp[lits,aC,si,ak,cl,den,List.range_succ]
  rw[e];exact this
 have hx:ta (J4 60 241 [.agg [.int .i64 1,.int .i64 0,.int .i64 255,.fn 247 [] [.ptr 0 0],.fn 248 [] [.ptr 0 0]]] (si k x pre post) (bA 2 λv b _=>v=.ay [.sl 2 0 1 1,.bool af]/\b=si k x pre post++[⟨af,⟨5,(0,0)⟩,[.int .u8 x]⟩])):=⟨by rw[awm];exact awo hk h ⟨rfl,rfl⟩⟩;have gp:=afx hx (ids:=[q,r]) rfl sP S;clear hx;refine gp.mono ?_;rintro v w' ⟨y,more,b,rfl,hl,S',rfl,rfl⟩
 match more,hl with
 |[b],_=>
  refine⟨b,rfl,?_⟩;have e:lits ([q,r].take 2++[b]) ([q,r].take 2++[b]) (si k x pre post++[⟨af,⟨5,(0,0)⟩,[.int .u8 x]⟩])=lits [q,r,b] [q,r] (si k x pre post)++[⟨b,af,.cells #[.int .u8 x] 5 (0,0)⟩]:=rfl;rw[e]at S';exact(S'.sub (List.sublist_append_left _ _)).sub (kG _ _)
def XN {G:Type}:dk G:=λargs bl ch K=>match args with
 |[.agg [.int .i64 1,.int .i64 0,.int .i64 255,.fn 247 [] [.ptr q 0],.fn 248 [] [.ptr q' 0]]]=>(match bl[q]?with
  |some ⟨_,⟨337,(0,0)⟩,[.ptr r k]⟩=>(match bl[r]?with
   |some ⟨_,⟨232,(0,0)⟩,c⟩=>(match takeN c k with
    |some (_,.int .u8 x::_)=>cond (aA q q'&&bY bl.length bl) ((0<=x/\x<=255)/\K (.ay [.sl bl.length 0 1 1,.bool af]) (bl++[⟨af,⟨5,(0,0)⟩,[.int .u8 x]⟩]) ch) False
    |_=>False)
   |_=>False)
  |_=>False)
 |_=>False
def awq {G:Type} [Bl G] (gl:Nat->Option Nat):Sound (G:=G) prog gl 241 XN:=by
 intro args ids bl ch R ms w0 w K hg hl S hc;unfold XN at hc;split at hc
 ·rename_i q q';split at hc
  ·rename_i w1 r k ry;split at hc
   ·rename_i w2 c hbr;split at hc
    ·rename_i a x b ht;cases hq:aA q q'&&bY bl.length bl with
     |false=>rw[hq]at hc;exact hc.elim
     |true=>
      rw[hq]at hc;simp only[bD]at hq;obtain⟨hx,hK⟩:=hc;obtain rfl:=ck hq.1;have h1:=(gx hl S ry).2;have h2:=(gx hl S hbr).2;obtain⟨t1,t2⟩:=GY (ids:=ids) ht;rw[t1]at h2;have e2:ak ids (.int .u8 x::b)=.int .u8 x::ak ids b:=rfl;rw[e2]at h2;have e0:(aE ids [.agg [.int .i64 1,.int .i64 0,.int .i64 255,.fn 247 [] [.ptr q 0],.fn 248 [] [.ptr q 0]]]).toArray=#[.agg #[.int .i64 1,.int .i64 0,.int .i64 255,.func (.func 247) #[] #[.pointer (aa ⟨ids.getD q 0,0,ae⟩)],.func (.func 248) #[] #[.pointer (aa ⟨ids.getD q 0,0,ae⟩)]]]:=rfl;rw[e0];refine(awp (q:=ids.getD q 0) (r:=ids.getD r 0) (k:=k) rfl rfl h1 h2 t2.symm hx).mono ?_;rintro v w' ⟨b',rfl,T⟩;have S2:=S.beside T (Wr.cons rfl Wr.nil);refine⟨_,[b'],_,ch,?_,by simp[hl],?_,hK⟩
      ·simp only[den,aE,<-hl,lG]
      ·rw[fu _ _ _ _ hl,fw _ _ (by rw[hl];exact hq.2)];rw[bW];exact S2.perm (qR [_] (lits ids ids bl) (au ch R))
    ·exact hc.elim
   ·exact hc.elim
  ·exact hc.elim
 ·exact hc.elim
def XO (P:aG):(bg->V)->Op->List VB->List bx->VK bx->Prop:=λe op bl ch K=>match op with
 |.call c=>(match c.callee,c.args.toList,c.argTypes.toList with
  |.builtin .append,[s,xs],[t,tx]=>(match P.underlying t,P.underlying tx with
   |some (.slice T),aa (.slice _)=>(match uB P T,e s,e xs with
    |some (z,cd),.sl j 0 n c,.sl i 0 (m+1) _=>(match bl[j]?,bl[i]?with
     |some ⟨_,⟨_,(0,0)⟩,ac⟩,aa b=>(match zN ac 0 (n*z)with
      |some C=>cond (aA n c&&(aA (cD ac) (c*z)&&(aA (cD b.c) ((m+1)*z)&&(nA b.c&&(bZ cd 10000000&&(bZ (n+(m+1)) 1000000&&(bu 0 C&&bu 0 b.c)))))))
       (∀(x:Option aI) (c':Nat) (bk:List ao) (h:dD z T (ak [] C++ak [] b.c) x (n+(m+1)) c' bk),K (.raw (.slice x (n+(m+1)) c')) bl (⟨T,z,ak [] C++ak [] b.c,x,n+(m+1),c',bk,h⟩::ch)) False
      |none=>False)
     |_,_=>False)
    |_,_,_=>False)
   |_,_=>False)
  |_,_,_=>False)
 |_=>False
def awr {P:aG} {gl:Nat->Option Nat}:ik P gl (XO P):=by
 intro e op ids bl ch R ms w0 w K ρ o hg hl S bd ho h;unfold XO at h;split at h
 ·rename_i c;split at h
  ·rename_i s xs t tx ff cN dU;split at h
   ·rename_i T T' ht gr;split at h
    ·rename_i z cd j n cc i m ow cu gE fS;split at h
     ·rename_i wr Ta ac b ha hb;split at h
      ·rename_i C hC;cases hq:aA n cc&&(aA (cD ac) (cc*z)&&(aA (cD b.c) ((m+1)*z)&&(nA b.c&&(bZ cd 10000000&&(bZ (n+(m+1)) 1000000&&(bu 0 C&&bu 0 b.c))))))with
       |false=>rw[hq]at h;exact h.elim
       |true=>
        rw[hq]at h;simp only[cond_true]at h;simp only[bD]at hq;obtain⟨q1,q2,q3,q4,q5,q6,q8,q9⟩:=hq;obtain rfl:=ck q1;have q2:=ck q2;have q3:=ck q3;have q5:=eO q5;have q6:=eO q6;have aS:=(gx hl S hb).2;have RX:=(gx hl S ha).2;obtain⟨g1,g2,g3⟩:=zP (ids:=ids) hC;rw[List.drop_zero]at g1;have e1:∀l:List V,bu 0 l=af->ak ids l=ak [] l:=λl hw=>jl (ids:=[]) (more:=ids) l hw;have XP:ak ids ac=ak [] C:=by rw[<-e1 C q8,<-g1,List.take_of_length_le (by rw[lF,q2];exact cY _)]
        obtain⟨inf,uC,hi⟩:=iX.1 (Hm cu);simp only[bC]at hi;obtain⟨hz,dc,j6⟩:=hi;obtain⟨z0,nv,pV⟩:=iX.1 hz;have xF:(ak ids b.c).length=(m+1)*z:=by rw[lF,q3]
        have fi:Src P z tx (.slice (aa ⟨ids.getD i 0,0,ae⟩) (m+1) ow) (m+1) (ak [] b.c) w:=by
         rw[<-e1 b.c q9];refine qN w gr ⟨ids.getD i 0,0,ae⟩ (m+1) ow _ xF (λj u hj=>?_) (λu hu=>BJ q4 u hu);rw[iK,cell_of aS];simpa using hj
        have RY:w.heap[ids.getD j 0]?=aa (.cells (ak [] C++[]).toArray Ta (0,0)):=by rw[cT,<-XP];exact RX
        have jM:(n+(m+1))*cd<=140737488355328:=ia (Nat.mul_le_mul q6 q5) dC;have hold:(Builtin.firstCells inf.size n (.slice (aa ⟨ids.getD j 0,0,ae⟩) n n)).run P w.drew=.ok (ak [] C).toArray w.drew:=by
         refine run_firstCells_some (P:=P) w.drew inf.size n ⟨ids.getD j 0,0,ae⟩ n n (ak [] C) (by rw[<-XP,lF,q2,dc]) (λk v hk=>?_);rw[iK];have:w.drew.cell? ⟨ids.getD j 0,0+k,ae⟩=w.cell? ⟨ids.getD j 0,k,ae⟩:=sP;rw[this,cell_of RY,cT];simpa using hk
        have bT:=run_append_grow_src (P:=P) w t tx o.type T inf z0 ht uC nv (aa ⟨ids.getD j 0,0,ae⟩) n n (ak [] C) hold (.slice (aa ⟨ids.getD i 0,0,ae⟩) (m+1) ow) (m+1) (ak [] b.c) (by rw[dc];exact fi) oM oM (by rw[j6];exact growslice_fits oM jM);have fh:=grownCap_ge w (n+(m+1)) n T;obtain⟨mR,ar,iO⟩:=c;simp only at ff cN dU;have e2:ar=#[s,xs]:=by rw[<-cN]
        have e3:iO=#[t,tx]:=by rw[<-dU]
        subst ff e2 e3;have j9:ρ s=.slice (aa ⟨ids.getD j 0,0,ae⟩) n n:=by rw[bd,gE];simp only[den]
        have oA:ρ xs=.slice (aa ⟨ids.getD i 0,0,ae⟩) (m+1) ow:=by rw[bd,fS];simp only[den]
        let tl:=(qM z0.cells (grownCap w (n+(m+1)) n T-(n+(m+1)))).toList
        have iL:dD z T (ak [] C++ak [] b.c) (aa ⟨w.heap.size,0,ae⟩) (n+(m+1)) (grownCap w (n+(m+1)) n T) [⟨w.heap.size,af,.cells ((ak [] C++ak [] b.c)++tl).toArray T (0,0)⟩]:=by
         have l1:(ak [] C).length=n*z:=by rw[<-XP,lF,q2]
         have l2:(ak [] b.c).length=(m+1)*z:=by rw[<-e1 b.c q9,xF]
         refine⟨by rw[fL,l1,l2,<-n9],fh,.inr ⟨_,tl,rfl,rfl,?_⟩⟩;rw[fL,fL,l1,l2,wF,size_zeroCells,pV,<-n9,<-n9];congr 1;omega
        refine⟨.raw (.slice (aa ⟨w.heap.size,0,ae⟩) (n+(m+1)) (grownCap w (n+(m+1)) n T)),[],bl,_,_,.inl (jJ (P:=P) (ρ:=ρ) (o:=o) ho j9 oA bT),by simpa using hl,?_,h _ _ _ iL⟩;rw[cT];have hn:=n6 w.drew (.cells ((ak [] C++ak [] b.c).toArray++qM z0.cells (grownCap w (n+(m+1)) n T-(n+(m+1)))) T);have hce:(ak [] C++ak [] b.c).toArray++qM z0.cells (grownCap w (n+(m+1)) n T-(n+(m+1)))=((ak [] C++ak [] b.c)++tl).toArray:=by apply fD;simp[tl]
        rw[hce]at hn⊢;have S2:=S.new (((Ch.refl [] w).drew).trans (Ch.alloc [] w.drew _) (λx hx=>.inl hx)) (cY _) hn;refine S2.perm ?_;exact qR [_] (lits ids ids bl) (au ch R)
      ·exact h.elim
     ·exact h.elim
    ·exact h.elim
   ·exact h.elim
  ·exact h.elim
 ·exact h.elim
def afy (e:bg->V) (op:Op):Bool:=match op with
 |.call c=>(match c.args.toList with
  |s::_=>(match e s with|.raw _=>af|_=>ag)
  |_=>ag)
 |_=>ag
def XQ (P:aG):(bg->V)->Op->List VB->List bx->VK bx->Prop:=λe op bl ch K=>cond (afy e op) (LW P e op bl ch K) (XO P e op bl ch K)
def afz {P:aG} {gl:Nat->Option Nat}:ik P gl (XQ P):=B_ afy aax awr
def XR:List (bK bx):=[⟨241,ag,XN⟩]
def afA:aH prog (λ_=>ae) XR:=aH.cons ⟨awq _,λe=>by cases e⟩ aH.nil
def XS (n:Nat) (f:fl) (args:List V) (bl:List VB) (K:VK bx):Prop:=br (gy prog (λ_=>ae) XR (XQ prog) afz) n f args bl [] K
def ap9 (g:bx) (x:Int) (k:bx->Prop):Prop:=(g.v=g.v/\g.n+1<=1000000)/\∀(xa:Option aI) (c:Nat) (bk:List ao) (h:dD g.z g.T (g.os++[.int .u8 x]) xa (g.n+1) c bk),k ⟨g.T,g.z,g.os++[.int .u8 x],xa,g.n+1,c,bk,h⟩
def XT (nc:Nat->Int) (E:bx->Prop):Nat->Nat->bx->Prop
 |0,_,g=>E g
 |k+1,i,g=>(0<=nc i/\nc i<=255)/\ap9 g (nc i) (XT nc E k (i+1))
def aws (nc:Nat->Int) (E:bx->Prop):Prop:=(0<=nc 0/\nc 0<=255)/\∀(x:Option aI) (c:Nat) (bk:List ao) (h:dD 1 5 ([.int .u8 129]++[.int .u8 (nc 0)]) x 2 c bk),XT nc E 7 1 ⟨5,1,[.int .u8 129]++[.int .u8 (nc 0)],x,2,c,bk,h⟩
def awt (nc:Nat->Int) (c:Nat) (u:List ai) (K:VK bx):XS 90 212 [.int .i64 129,.sl 1 0 8 c] (sh nc u) (bA 10 K)=aws nc λg=>K (.ay [g.v,.bool af]) (sh nc u) [g]:=kR
def awu (nc:Nat->Int) (K:VK Empty):J4 60 211 [.ptr 0 0] [XL nc] (bA 1 K)=∀(c:Nat) (u:List ai),1<=c->Dy 1 u c->J3 (λc u=>K (.ay [.sl 1 0 8 c,.bool af]) (sh nc u) []) 7 1 c u:=kR
def awv {n f n0:Nat} {args:List V} {bl:List VB} {K:VK bx} (h:ta (XS n f args bl (bA n0 K))) {ids:List Nat} (hl:ids.length=bl.length) (hn:n0<=ids.length) {bs:List ao} {ms:List Nat} {w0 w:aj} (S:St ms w0 (lits ids ids bl++bs) w):
 aX prog f (aE ids args).toArray w λv w1=>∃x more b ch,v=den (ids.take n0++more) x/\(ids.take n0++more).length=b.length/\St ms w0 (lits (ids.take n0++more) (ids.take n0++more) b++au ch bs) w1/\K x b ch:=by
 refine(eZ afA.T afA.Q n (C:=gy prog (λ_=>ae) XR (XQ prog) afz) (ids:=ids) (bl:=bl) (ch:=[]) (R:=bs) Gl.no hl S h.h).mono ?_;rintro v w' ⟨y,more,bl',ch',rfl,h1,S',hK⟩;obtain⟨v2,cn,bl2,e,cX,S2,hK⟩:=iP (n0:=n0) h1 (by simp;omega) S' hK;rw[List.take_append_of_le_length hn]at e cX S2;exact⟨v2,cn,bl2,ch',e,cX,S2,hK⟩
def f9 (nc:Nat->Int):Nat->Int:=gu [129,nc 0,nc 1,nc 2,nc 3,nc 4,nc 5,nc 6,nc 7]
structure Pm (nc:Nat->Int) (g:bx):Prop where
 T:g.T=5
 z:g.z=1
 n:g.n=9
 os:g.os=(bo 9).map λj=>.int .u8 (f9 nc j)
def XU:dk bx:=λargs bl ch K=>match args,bl with
 |[.ptr 0 0],[⟨af,⟨232,(0,0)⟩,c⟩]=>∃nc,c=Dx nc/\∀(k:Nat) (u:List ai),8<=k->K (.ay [.sl 1 0 8 k,.bool af]) (sh nc u) ch
 |_,_=>False
def XV:dk bx:=λargs bl ch K=>match args with
 |[.int .i64 129,.sl 1 0 8 _]=>∃nc u,bl=sh nc u/\(∀j,0<=nc j/\nc j<=255)/\∀g:bx,Pm nc g->K (.ay [g.v,.bool af]) bl (g::ch)
 |_=>False
def aww:Sound prog (λ_=>ae) 211 XU:=by
 intro args ids bl ch R ms w0 w K hg hl S hc;unfold XU at hc;split at hc
 ·rename_i c;obtain⟨nc,rfl,hK⟩:=hc
  match ids,hl with
  |[r],_=>
   have hv:ta (J4 60 211 [.ptr 0 0] [XL nc] (bA 1 λv b _=>∃k u,v=.ay [.sl 1 0 8 k,.bool af]/\b=sh nc u/\8<=k)):=⟨by rw[awu];exact λc u h1 h2=>afv 7 1 c u h1 h2 λk u h _=>⟨k,u,rfl,rfl,h⟩⟩;have hr:=afx hv (ids:=[r]) (bs:=au ch R) rfl sP S;clear hv;refine hr.mono ?_;rintro v w' ⟨x,more,b,rfl,h1,S2,k,u,rfl,rfl,h8⟩;exact⟨_,more,_,ch,rfl,h1,S2,hK k u h8⟩
 ·exact hc.elim
def afB {nc:Nat->Int} (j7:∀j,0<=nc j/\nc j<=255) {E:bx->Prop}:∀(k i:Nat) (g:bx),g.T=5->g.z=1->g.n=i+1->g.os=.int .u8 129::(bo i).map (λj=>.int .u8 (nc j))->i+k<=100->
 (∀g:bx,g.T=5->g.z=1->g.n=i+k+1->g.os=.int .u8 129::(bo (i+k)).map (λj=>.int .u8 (nc j))->E g)->XT nc E k i g
 |0,i,g,h1,h2,h3,h4,_,hE=>hE g h1 h2 h3 h4
 |k+1,i,g,h1,h2,h3,h4,hb,hE=>⟨j7 i,⟨rfl,oM⟩,λxa c bk h=>afB j7 k (i+1) _ h1 h2 (by show g.n+1=_;omega) (by show g.os++_=_;rw[h4,List.range_succ,tX];rfl) oM λg a b c d=>hE g a b oM (by rw[d,show i+1+k=i+(k+1) by omega])⟩
def awx:Sound prog (λ_=>ae) 212 XV:=by
 intro args ids bl ch R ms w0 w K hg hl S hc;unfold XV at hc;split at hc
 ·rename_i c;obtain⟨nc,u,rfl,j7,hK⟩:=hc;have hv:ta (XS 90 212 [.int .i64 129,.sl 1 0 8 c] (sh nc u) (bA 10 λv b ch=>∃g,v=.ay [g.v,.bool af]/\b=sh nc u/\ch=[g]/\Pm nc g)):=⟨by
   rw[awt];exact⟨j7 0,λx c bk h=>afB j7 7 1 _ rfl rfl rfl rfl oM λg a b c d=>⟨g,rfl,rfl,rfl,a,b,c,by rw[d];rfl⟩⟩⟩
  have hr:=awv hv (ids:=ids) (bs:=au ch R) hl (by rw[hl];simp[sh,Pk]) S;clear hv;refine hr.mono ?_;rintro v w' ⟨x,more,b,ch',rfl,h1,S2,g,rfl,rfl,rfl,h9⟩;have hlen:ids.length=10:=by rw[hl];simp[sh,Pk]
  have hm:more=[]:=by
   have:(ids.take 10++more).length=10:=by rw[h1];simp[sh,Pk]
   rw[fL,zr,hlen]at this;exact lz (by simpa using this)
  subst hm;rw[List.take_of_length_le oM]at S2 h1;refine⟨_,[],_,_,?_,h1,S2,hK g h9⟩;rw[List.take_of_length_le oM]
 ·exact hc.elim
def XW:List (bK bx):=[⟨211,ag,XU⟩,⟨212,ag,XV⟩]
def afC:aH prog (λ_=>ae) XW:=aH.cons ⟨aww,λe=>by cases e⟩ (aH.cons ⟨awx,λe=>by cases e⟩ aH.nil)
def XY (n:Nat) (f:fl) (args:List V) (K:VK bx):Prop:=br (bM prog (λ_=>ae) XW) n f args [] [] K
def awy {n f:Nat} {args:List V} {K:VK bx} (h:ta (XY n f args (bA 0 K))) {w:aj}:
 aX prog f (aE [] args).toArray w λv w1=>∃x b ch,(b=[]->v=den [] x)/\(b=[]->St [] w (au ch []) w1)/\K x b ch:=by
 refine(eZ afC.T afC.Q n (C:=bM prog (λ_=>ae) XW) (ids:=[]) (bl:=[]) (ch:=[]) (R:=[]) (ms:=[]) (w0:=w) (w:=w) Gl.no rfl (St.nil [] w) h.h).mono ?_;rintro v w' ⟨y,more,bl',ch',rfl,h1,S',hK⟩;obtain⟨v2,cn,bl2,e,cX,S2,hK⟩:=iP (n0:=0) (ids:=more) h1 sP S' hK;refine⟨v2,bl2,ch',λhb=>?_,λhb=>?_,hK⟩
 ·subst hb;obtain rfl:cn=[]:=by simpa using cX
  exact e
 ·subst hb;obtain rfl:cn=[]:=by simpa using cX
  exact S2
def awz (nc:Nat->Int) (K:VK bx):XY 60 165 [.agg (Dx nc)] (bA 0 K)=∃nc1,Dx nc=Dx nc1/\∀(k:Nat) (u:List ai),8<=k->∃Pn u2,sh nc1 u=sh Pn u2/\(∀j,0<=Pn j/\Pn j<=255)/\∀g:bx,Pm Pn g->K (.ay [g.v,.int .i64 0]) [] [g]:=kR
def awA (nc:Nat->Int) (h:∀j,0<=nc j/\nc j<=255) (w:aj):aX prog 165 (aE [] [.agg (Dx nc)]).toArray w λv w1=>∃b c1,v=.tuple #[.slice (aa ⟨b,0,ae⟩) 9 c1,.int .i64 0]/\9<=c1/\w.heap.size<=b/\cA w1 b 0 9 (f9 nc)/\Ch [] w w1:=by
 have hv:ta (XY 60 165 [.agg (Dx nc)] (bA 0 λv b ch=>∃g,v=.ay [g.v,.int .i64 0]/\b=[]/\ch=[g]/\Pm nc g)):=⟨by rw[awz];exact⟨nc,rfl,λk u _=>⟨nc,u,rfl,h,λg hg=>⟨g,rfl,rfl,rfl,hg⟩⟩⟩⟩;have hr:=awy hv (w:=w);clear hv;refine hr.mono ?_;rintro v w' ⟨x,b,ch',e,S2,g,rfl,rfl,rfl,h1,h2,h3,h4⟩;have e:=e rfl;have S2:=S2 rfl;have hg:=g.h;rw[h1,h2,h3,h4]at hg;obtain⟨_,hc,hx⟩:=hg;rcases hx with⟨_,h0,_⟩|⟨b,t,hx,hb,_⟩
 ·cases h0
 ·have S3:St [] w ([⟨b,af,.cells (((bo 9).map λj=>fI .u8 (f9 nc j))++t).toArray 5 (0,0)⟩]++[]) w':=by
   have:St [] w (g.bl++[]) w':=S2;rw[hb]at this;exact this
  refine⟨b,g.c,?_,hc,(S3.own 0 _ rfl rfl).resolve_left sP,λj hj=>?_,S3.ch⟩
  ·rw[e];simp only[den,aE,bx.v,hx,h3]
  ·rw[dS,cell_of (S3.at_ 0 _ rfl)];simp only[jX];rw[gm (by simpa using hj)];simp[pQ hj]
end
section
open Go Go.RowKit Go.BigFrame Sx
def XZ (r:Sd.aO):Array ai:=#[.int .i64 r.kind,.int .i64 r.seq,.int .i64 r.role,.int .i64 r.eK,.int .i64 r.an,.int .i64 r.code,.int .u8 (r.aK 0),.int .u8 (r.aK 1),.int .u8 (r.aK 2),.int .u8 (r.aK 3),.int .u8 (r.aK 4),.int .u8 (r.aK 5),.int .u8 (r.aK 6),.int .u8 (r.aK 7)]
def gB (r:Sd.aO):Nat:=if r.kind=129 then 9 else if r.kind=130\/r.kind=131 then 5 else if r.kind=132 then 6 else if r.kind=133\/r.kind=136 then 3 else 4
def A3 (r:Sd.aO):Nat->Int:=if r.kind=129 then f9 r.aK else if r.kind=130 then gu [130,bG 1 (u64.wrap r.role) 0,bG 1 (u64.wrap r.eK) 0,bG 2 (u64.wrap r.an) 0,bG 2 (u64.wrap r.an) 1]
 else if r.kind=131 then gu [131,bG 4 (u64.wrap r.seq) 0,bG 4 (u64.wrap r.seq) 1,bG 4 (u64.wrap r.seq) 2,bG 4 (u64.wrap r.seq) 3]else if r.kind=132 then gu [132,bG 4 (u64.wrap r.seq) 0,bG 4 (u64.wrap r.seq) 1,bG 4 (u64.wrap r.seq) 2,bG 4 (u64.wrap r.seq) 3,bG 1 (u64.wrap r.code) 0]
 else if r.kind=133 then gu [133,bG 2 (u64.wrap r.an) 0,bG 2 (u64.wrap r.an) 1]else if r.kind=134 then gu [134,bG 1 (u64.wrap r.eK) 0,bG 2 (u64.wrap r.an) 0,bG 2 (u64.wrap r.an) 1]
 else if r.kind=135 then gu [135,bG 1 (u64.wrap r.eK) 0,bG 2 (u64.wrap r.an) 0,bG 2 (u64.wrap r.an) 1]else gu [136,bG 1 (u64.wrap r.eK) 0,bG 1 (u64.wrap r.code) 0]
def awB (r:Sd.aO):gB r=3\/gB r=4\/gB r=5\/gB r=6\/gB r=9:=by
 unfold gB;repeat' split
 all_goals simp
def awC (r:Sd.aO) (h:RB r) (w:aj):aX prog 165 #[.agg (XZ r)] w λv w1=>∃b c1,v=.tuple #[.slice (aa ⟨b,0,ae⟩) (gB r) c1,.int .i64 0]/\gB r<=c1/\w.heap.size<=b/\cA w1 b 0 (gB r) (A3 r)/\Ch [] w w1:=by
 have hk:r.kind=129\/r.kind=130\/r.kind=131\/r.kind=132\/r.kind=133\/r.kind=134\/r.kind=135\/r.kind=136:=by have:=h.kind;omega
 obtain⟨k,sq,ro,wh,ep,co,nc⟩:=r;obtain⟨_,⟨s1,s2⟩,⟨r1,r2⟩,⟨w1,w2⟩,⟨e1,e2⟩,⟨c1,c2⟩,⟨n1,n2⟩⟩:=h;simp only at*;rcases hk with rfl|rfl|rfl|rfl|rfl|rfl|rfl|rfl<;>simp at s2 r2 w2 e2 c2 n2<;>subst_vars
 ·exact awA nc n1 w
 ·exact awg ro wh ep r1 w1 e1 w
 ·exact awf sq s1 w
 ·exact awh sq co s1 c1 w
 ·exact awi ep e1 w
 ·exact awj wh ep w1 e1 w
 ·exact awk wh ep w1 e1 w
 ·exact awe wh co w1 c1 w
def awD (n:Nat) (hn:n=3\/n=4\/n=5\/n=6\/n=9) (b o c:Nat) (f:Nat->Int) (w:aj) (hB:cA w b o n f):
 aX prog 166 #[.slice (aa ⟨b,o,ae⟩) n c] w λv w1=>∃b c1,v=.tuple #[.slice (aa ⟨b,0,ae⟩) (n+5) c1,.int .i64 0]/\n+5<=c1/\w.heap.size<=b/\w1.heap[b]?=aa (.cells (bE (n+5) (yi n f) c1) 5 (0,0))/\Ch [] w w1:=by
 exact alT b o n c f oM w hB
def awE (xs:Option aI) (ns cs:Nat) (dW bc:Nat) (x:Option aI) (n c:Nat) (bl:List ao) (so:List ai) (l:Int) (r:Sd.aO) (X0:RB r) (w:aj) {ms:List Nat} {w0:aj} {bs:List ao} (S0:St ms w0 ([⟨dW,af,.cells #[.pointer (aa ⟨bc,0,ae⟩),.slice xs ns cs,.slice x n c] 135 (0,0)⟩]++(bl++bs)) w) (hR:dD 2 61 so xs ns cs bl) (hn:ns<=1000):
 aX prog 124 #[.pointer (aa ⟨dW,0,ae⟩),.int .i64 l,.agg #[.int .i64 r.kind,.int .i64 r.seq,.int .i64 r.role,.int .i64 r.eK,.int .i64 r.an,.int .i64 r.code,.int .u8 (r.aK 0),.int .u8 (r.aK 1),.int .u8 (r.aK 2),.int .u8 (r.aK 3),.int .u8 (r.aK 4),.int .u8 (r.aK 5),.int .u8 (r.aK 6),.int .u8 (r.aK 7)]] w λv w1=>∃x1 c1 jy bf cf,v=.tuple #[]/\dD 2 61 (so++[.int .i64 l,.slice (aa ⟨bf,0,ae⟩) (gB r+5) cf]) x1 (ns+1) c1 jy/\gB r+5<=cf/\St ms w0 ([⟨dW,af,.cells #[.pointer (aa ⟨bc,0,ae⟩),.slice x1 (ns+1) c1,.slice x n c] 135 (0,0)⟩]++(jy++(⟨bf,af,.cells (bE (gB r+5) (yi (gB r) (A3 r)) cf) 5 (0,0)⟩::bs))) w1:=by
 refine iZ Tryz.func124 rfl ?_;refine aR (aZ ?_);refine fc S0 (λb=>.pointer (aa ⟨b,0,ae⟩)) (.cells #[.int .i64 r.kind,.int .i64 r.seq,.int .i64 r.role,.int .i64 r.eK,.int .i64 r.an,.int .i64 r.code,.int .u8 (r.aK 0),.int .u8 (r.aK 1),.int .u8 (r.aK 2),.int .u8 (r.aK 3),.int .u8 (r.aK 4),.int .u8 (r.aK 5),.int .u8 (r.aK 6),.int .u8 (r.aK 7)] 232) ?_;intro bN jd dV;refine aT (aQ (aR (aZ ?_)));refine kS dV 0 14 #[.int .i64 r.kind,.int .i64 r.seq,.int .i64 r.role,.int .i64 r.eK,.int .i64 r.an,.int .i64 r.code,.int .u8 (r.aK 0),.int .u8 (r.aK 1),.int .u8 (r.aK 2),.int .u8 (r.aK 3),.int .u8 (r.aK 4),.int .u8 (r.aK 5),.int .u8 (r.aK 6),.int .u8 (r.aK 7)] bN 0 ?_;refine fY 165 #[.agg #[.int .i64 r.kind,.int .i64 r.seq,.int .i64 r.role,.int .i64 r.eK,.int .i64 r.an,.int .i64 r.code,.int .u8 (r.aK 0),.int .u8 (r.aK 1),.int .u8 (r.aK 2),.int .u8 (r.aK 3),.int .u8 (r.aK 4),.int .u8 (r.aK 5),.int .u8 (r.aK 6),.int .u8 (r.aK 7)]] ?_;refine(awC r X0 _).mono ?_;rintro _ HI ⟨uF,X1,rfl,xQ,mg,k9,HJ⟩;have dr:=dV.quiet HJ;refine dh ?_;refine av (.slice (aa ⟨uF,0,ae⟩) (gB r) X1) ?_;refine av (.int .i64 0) ?_;refine fp ?_;refine av (.int .i64 0) ?_;refine aT (aQ (aR (aZ ?_)));refine dh ?_;refine fY 166 #[.slice (aa ⟨uF,0,ae⟩) (gB r) X1] ?_;refine(awD (gB r) (awB r) uF 0 X1 (A3 r) _ k9).mono ?_;rintro _ SF ⟨nK,lM,rfl,EF,HD,Ak,oB⟩;have qj:=dr.new oB HD Ak;refine dh ?_;refine av (.slice (aa ⟨nK,0,ae⟩) (gB r+5) lM) ?_;refine av (.int .i64 0) ?_;refine fp ?_;refine av (.int .i64 0) ?_;refine aT (aQ (aZ ?_));refine dh ?_;refine dh ?_;refine av (.pointer (aa ⟨dW,0,ae⟩)) ?_;refine av (.pointer (aa ⟨dW,1,ae⟩)) ?_;refine mF qj 2 (.slice xs ns cs) dW 1 ?_;refine av (.int .i64 l) ?_;refine dh ?_;refine av (.agg #[.int .i64 l,.slice (aa ⟨nK,0,ae⟩) (gB r+5) lM]) ?_;refine fc qj (λb=>.slice (aa ⟨b,0,ae⟩) 1 1) (.cells #[.int .i64 l,.slice (aa ⟨nK,0,ae⟩) (gB r+5) lM] 61) ?_;intro J5 Tz vT;have awF:St ms w0 ([⟨J5,af,.cells #[.int .i64 l,.slice (aa ⟨nK,0,ae⟩) (gB r+5) lM] 61 (0,0)⟩,⟨nK,af,.cells (bE (gB r+5) (yi (gB r) (A3 r)) lM) 5 (0,0)⟩,⟨bN,af,.cells #[.int .i64 r.kind,.int .i64 r.seq,.int .i64 r.role,.int .i64 r.eK,.int .i64 r.an,.int .i64 r.code,.int .u8 (r.aK 0),.int .u8 (r.aK 1),.int .u8 (r.aK 2),.int .u8 (r.aK 3),.int .u8 (r.aK 4),.int .u8 (r.aK 5),.int .u8 (r.aK 6),.int .u8 (r.aK 7)] 232 (0,0)⟩,⟨dW,af,.cells #[.pointer (aa ⟨bc,0,ae⟩),.slice xs ns cs,.slice x n c] 135 (0,0)⟩]++(bl++bs)) Tz:=vT.re (R:=bs) [[⟨J5,af,.cells #[.int .i64 l,.slice (aa ⟨nK,0,ae⟩) (gB r+5) lM] 61 (0,0)⟩],[⟨nK,af,.cells (bE (gB r+5) (yi (gB r) (A3 r)) lM) 5 (0,0)⟩],[⟨bN,af,.cells #[.int .i64 r.kind,.int .i64 r.seq,.int .i64 r.role,.int .i64 r.eK,.int .i64 r.an,.int .i64 r.code,.int .u8 (r.aK 0),.int .u8 (r.aK 1),.int .u8 (r.aK 2),.int .u8 (r.aK 3),.int .u8 (r.aK 4),.int .u8 (r.aK 5),.int .u8 (r.aK 6),.int .u8 (r.aK 7)] 232 (0,0)⟩],[⟨dW,af,.cells #[.pointer (aa ⟨bc,0,ae⟩),.slice xs ns cs,.slice x n c] 135 (0,0)⟩],bl] [0,1,2,3,4];refine agD (z:=2) (T:=61) (olds:=so) (xs:=xs) (n:=ns) (c:=cs) (m:=1) (news:=[.int .i64 l,.slice (aa ⟨nK,0,ae⟩) (gB r+5) lM]) (xv:=.slice (aa ⟨J5,0,ae⟩) 1 1) (A:=[⟨J5,af,.cells #[.int .i64 l,.slice (aa ⟨nK,0,ae⟩) (gB r+5) lM] 61 (0,0)⟩,⟨nK,af,.cells (bE (gB r+5) (yi (gB r) (A3 r)) lM) 5 (0,0)⟩,⟨bN,af,.cells #[.int .i64 r.kind,.int .i64 r.seq,.int .i64 r.role,.int .i64 r.eK,.int .i64 r.an,.int .i64 r.code,.int .u8 (r.aK 0),.int .u8 (r.aK 1),.int .u8 (r.aK 2),.int .u8 (r.aK 3),.int .u8 (r.aK 4),.int .u8 (r.aK 5),.int .u8 (r.aK 6),.int .u8 (r.aK 7)] 232 (0,0)⟩,⟨dW,af,.cells #[.pointer (aa ⟨bc,0,ae⟩),.slice xs ns cs,.slice x n c] 135 (0,0)⟩]) (bl:=bl) (R:=bs) awF hR (agC vT 0 1 2 [.int .i64 l,.slice (aa ⟨nK,0,ae⟩) (gB r+5) lM] (tx:=44) (e':=61) kR kR kR rF) 32 (hbd:=oM) (h63:=(by unfold maxLen;omega)) (k:=?_);intro X2 X3 afD ay3 An awG;refine av (.pointer (aa ⟨dW,0,ae⟩)) ?_;refine av (.pointer (aa ⟨dW,1,ae⟩)) ?_;refine store_ awG 3 (.slice X2 (ns+1) X3) dW 1 ?_;intro Mm Sk;refine aT ?_;refine end_ rfl (fR [] [] (.tuple #[]) trivial) ?_;refine⟨X2,X3,afD,nK,lM,rfl,?_,EF,?_⟩
 ·exact An
 ·exact Sk.re (R:=bs) [[⟨J5,af,.cells #[.int .i64 l,.slice (aa ⟨nK,0,ae⟩) (gB r+5) lM] 61 (0,0)⟩],[⟨nK,af,.cells (bE (gB r+5) (yi (gB r) (A3 r)) lM) 5 (0,0)⟩],[⟨bN,af,.cells #[.int .i64 r.kind,.int .i64 r.seq,.int .i64 r.role,.int .i64 r.eK,.int .i64 r.an,.int .i64 r.code,.int .u8 (r.aK 0),.int .u8 (r.aK 1),.int .u8 (r.aK 2),.int .u8 (r.aK 3),.int .u8 (r.aK 4),.int .u8 (r.aK 5),.int .u8 (r.aK 6),.int .u8 (r.aK 7)] 232 (0,0)⟩],[⟨dW,af,.cells #[.pointer (aa ⟨bc,0,ae⟩),.slice X2 (ns+1) X3,.slice x n c] 135 (0,0)⟩],afD] [3,4,1]
end
section
open Go Go.RowKit Go.BigFrame Sx Vx
def oL (r:Sd.aO):Nat×Sd.ax:=(gB r+5,yi (gB r) (A3 r))
def awH {l:List V} {r:Sd.aO} (h:Vd l=aa r) (ids:List Nat):(ak ids l).toArray=XZ r:=by
 unfold Vd at h;split at h
 ·split at h
  ·obtain rfl:=cG h;kernel_rfl
  ·obtain rfl:=cG h;kernel_rfl
  ·cases h
 ·cases h
def afE (r c s k t:ao) (A B E R:List ao):([r,c,s,k,t]++((A++(B++E))++R)).Perm ([s]++(B++(r::c::k::t::(A++(E++R))))):=by
 have h1:([r,c,s,k,t]++((A++(B++E))++R)).Perm (s::r::c::k::t::((A++(B++E))++R)):=by
  refine((Bb s c _).cons r).trans ?_;exact Bb s r _
 refine h1.trans (vh s ?_);have h2:([r,c,k,t]++(A++(B++(E++R)))).Perm (B++([r,c,k,t]++(A++(E++R)))):=by
  have e1:[r,c,k,t]++(A++(B++(E++R)))=([r,c,k,t]++A)++(B++(E++R)):=sP;have e2:B++([r,c,k,t]++(A++(E++R)))=B++(([r,c,k,t]++A)++(E++R)):=sP;rw[e1,e2];exact qR _ _ _
 simpa[bW]using h2
def ba.tell {fr:Sd.aO->Nat×Sd.ax} {k:LK} {s:Sd.ah} (F:ba fr (a9 k s)) (l:Int) (r:Sd.aO) {x1:Option aI} {c1:Nat} {jy Bf:List ao} {so:List ai} (hs:dD 2 61 so x1 (s.tell l r).bw.length c1 jy) (hf:CK fr (s.tell l r).bw so Bf):ba fr (a9 k (s.tell l r)):=
 ⟨x1,c1,F.xr,F.cr,F.Bq,F.Br,jy,Bf,F.Bk,so,F.hq,F.hr,hs,hf,F.hk⟩
def afF:Body (fr:=oL) 124 dt:=by
 intro ar k s F Kb a b c R ms w0 w h0 hq hM S;unfold dt at hM;split at hM
 ·rename_i l rl;split at hM
  ·rename_i r hr;have hrm:=hM.1.1;have X0:=hM.1.2;have hK:=hM.2;have e1:lits (ca a b c) (ca a b c) (bI k s F)=[aC (ca a b c) 0 (b_ k),aC (ca a b c) 1 (gK k),⟨a,af,.cells #[.pointer (aa ⟨b,0,ae⟩),F.vs,F.vr] 135 (0,0)⟩,aC (ca a b c) b (fy k 4 s),aC (ca a b c) c (fg s)]:=kR;rw[e1,U2]at S;have S1:=S.perm (afE _ _ _ _ _ _ _ _ _);have e2:(aE (ca a b c) (.ptr 2 0::[.int .i64 l,.agg rl])).toArray=#[.pointer (aa ⟨a,0,ae⟩),.int .i64 l,.agg (XZ r)]:=by
    have:=awH hr (ca a b c);simp only[aE,den,this];rfl
   rw[e2];have hn:s.bw.length<=1000:=by have:=hrm.1;omega
   refine(awE _ _ _ _ _ _ _ _ _ _ l r X0 w S1 F.hs hn).mono ?_;rintro v w1 ⟨x1,c1,jy,bf,cf,rfl,j9,hcf,S2⟩;have hl:(s.tell l r).bw.length=s.bw.length+1:=by simp[Sd.ah.tell]
   have ie:dD 2 61 (F.so++[.int .i64 l,.slice (aa ⟨bf,0,ae⟩) (oL r).1 cf]) x1 (s.tell l r).bw.length c1 jy:=by rw[hl];exact j9
   have BN:CK oL (s.tell l r).bw (F.so++[.int .i64 l,.slice (aa ⟨bf,0,ae⟩) (oL r).1 cf]) (F.Bf++[⟨bf,af,.cells (bE (oL r).1 (oL r).2 cf) 5 (0,0)⟩]):=F.hf.snoc l r (aa ⟨bf,0,ae⟩) cf _ ⟨hcf,.inr ⟨bf,rfl,rfl⟩⟩
   let F':ba oL (a9 k (s.tell l r)):=F.tell l r ie BN
   refine⟨.ay [],_,F',rfl,rfl,rfl,hK F',?_⟩;have e3:lits (ca a b c) (ca a b c) (bI k (s.tell l r) F')=[aC (ca a b c) 0 (b_ k),aC (ca a b c) 1 (gK k),⟨a,af,.cells #[.pointer (aa ⟨b,0,ae⟩),.slice x1 (s.tell l r).bw.length c1,F.vr] 135 (0,0)⟩,aC (ca a b c) b (fy k 4 s),aC (ca a b c) c (fg s)]:=kR;have e4:F'.B=F.Br++(jy++((F.Bf++[⟨bf,af,.cells (bE (oL r).1 (oL r).2 cf) 5 (0,0)⟩])++(F.Bq++F.Bk))):=rfl;rw[e3,e4,hl];refine(S2.perm ?_).perm (afE _ _ _ _ _ _ _ _ _).symm;refine j4 _ (j4 _ ?_);have p:∀(f x1 x2 x3 x4:ao) (A E D R:List ao),(f::x1::x2::x3::x4::(A++((E++D)++R))).Perm (x1::x2::x3::x4::(A++(((E++[f])++D)++R))):=by
    intro f x1 x2 x3 x4 A E D R;have q1:f::x1::x2::x3::x4::(A++((E++D)++R))=[f]++(([x1,x2,x3,x4]++(A++E))++(D++R)):=sP;have q2:x1::x2::x3::x4::(A++(((E++[f])++D)++R))=([x1,x2,x3,x4]++(A++E))++([f]++(D++R)):=sP;rw[q1,q2];exact qR _ _ _
   exact p _ _ _ _ _ _ _ _ _
  ·exact hM.elim
 ·exact hM.elim
end
end Go.Proofs.YtddcipamdggcnaaGreatDoor
namespace Sx
open Go Go.RowKit
def Rd (P:aG) (w:aj):Nat->aM->List ai->Prop
 |0,_,_=>True
 |d+1,t,cs=>
  match P.underlying t with
  |some .bool=>∃b,cs=[.bool b]
  |some (.int k)=>∃n,cs=[.int k n]/\k.min<=n/\n<=k.max
  |some (.slice e)=>cs=[.slice ae 0 0]\/∃a len cap,cs=[.slice (aa a) len cap]/\len<=cap/\cap<=maxLen/\∀i,i<cap->∃oD,w.cells? 0 (a.add (i*P.cellsOf e)) (P.cellsOf e)=aa oD/\Rd P w d e oD
  |some (.struct fs)=>cs.length=P.cellsOf t/\∀(i:Nat) f,fs[i]?=aa f->Rd P w d f.type ((cs.drop f.offset).take (P.cellsOf f.type))
  |some (.array n e)=>cs.length=P.cellsOf t/\∀i,i<n->Rd P w d e ((cs.drop (i*P.cellsOf e)).take (P.cellsOf e))
  |_=>True
section
variable{H:Type} {enc:aM×ai->H} {P:aG} {w:aj} {held:Bool}
def J6:∀(d:Nat) {fuel:Nat} {t:aM} {cs:List ai} {x:DataW H×List MemPlace},PV enc P w 0 (λ_=>af) held fuel t cs=aa x->Rd P w d t cs
 |0,_,_,_,_,_=>trivial
 |d+1,fuel,t,cs,x,h=>by
  unfold Rd;split
  ·rename_i hu;obtain⟨b,hb,_⟩:=DataW.trod_bool hu h;exact⟨b,hb⟩
  ·rename_i k hu;obtain⟨n,hn,_,hw⟩:=DataW.trod_int hu h;refine⟨n,hn,?_⟩;unfold Lit.wf at hw;simpa using hw
  ·rename_i e hu;rcases Deep.open_slice hu h with⟨h0,_⟩|⟨a,len,cap,m,n,D,Pl,hc,_,hl,hm,Hg,_,hx⟩
   ·exact .inl h0
   ·refine .inr ⟨a,len,cap,hc,hl,hm,λi hi=>?_⟩;obtain⟨oD,h1,h2⟩:=hx i (by rw[Hg];simpa using hi);exact⟨oD,h1,J6 d h2⟩
  ·rename_i fs hu;obtain⟨xs,n,_,_,hl,hs,hx⟩:=DataW.trod_struct hu h;refine⟨hl,λi f hf=>?_⟩;have h1:=hx i f hf;have hi:i<fs.size:=by
    rcases c9 i fs.size with h2|h2
    ·exact h2
    ·simp[h2]at hf
   rw[jY (by rw[hs];exact hi)]at h1;exact J6 d h1
  ·rename_i n e hu;obtain⟨xs,m,_,_,hl,hs,hx⟩:=DataW.trod_array hu h;refine⟨hl,λi hi=>?_⟩;have h1:=hx i hi;rw[jY (by rw[hs];exact hi)]at h1;exact J6 d h1
  ·trivial
def cellAt (P:aG):Nat->aM->Nat->Option aM
 |0,_,_=>ae
 |d+1,t,j=>
  match P.underlying t with
  |some (.struct fs)=>fs.toList.findSome? λf=>bif bZ f.offset j&&db j (f.offset+P.cellsOf f.type)then cellAt P d f.type (j-f.offset)else ae
  |some (.array n e)=>bif db (j/P.cellsOf e) n&&db 0 (P.cellsOf e)then cellAt P d e (j%P.cellsOf e)else ae
  |_=>bif aA j 0 then aa t else ae
def J7:∀(d:Nat) {t:aM} {cs:List ai} {j:Nat} {u:aM} {v:ai},(∀n,Rd P w n t cs)->cellAt P d t j=aa u->cs[j]?=aa v->∀n,Rd P w n u [v]
 |0,_,_,_,_,_,_,h,_=>by simp[cellAt]at h
 |d+1,t,cs,j,u,v,hr,h,hv=>by
  unfold cellAt at h;split at h
  ·rename_i fs hu;obtain⟨f,hf,h⟩:=List.exists_of_findSome?_eq_some h;obtain⟨i,hi⟩:=DA hf;have uc:fs[i]?=aa f:=by simpa using hi
   rw[agl]at h;split at h
   ·rename_i hc;simp only[bD]at hc;have h1:=eO hc.1;have h2:j<f.offset+P.cellsOf f.type:=by
     have:=hc.2;unfold db at this;exact eO this
    refine J7 d (cs:=(cs.drop f.offset).take (P.cellsOf f.type)) (λn=>?_) h ?_
    ·have:=hr (n+1);unfold Rd at this;rw[hu]at this;exact this.2 i f uc
    ·rw[YH oM,Gu];rw[show f.offset+(j-f.offset)=j by omega];exact hv
   ·simp at h
  ·rename_i n0 e hu;rw[agl]at h;split at h
   ·rename_i hc;simp only[bD]at hc;have h1:j/P.cellsOf e<n0:=by
     have:=hc.1;unfold db at this;exact eO this
    have h2:0<P.cellsOf e:=by
     have:=hc.2;unfold db at this;exact eO this
    refine J7 d (cs:=(cs.drop (j/P.cellsOf e*P.cellsOf e)).take (P.cellsOf e)) (λn=>?_) h ?_
    ·have:=hr (n+1);unfold Rd at this;rw[hu]at this;exact this.2 _ h1
    ·rw[YH (Nat.mod_lt _ h2),Gu];rw[show j/P.cellsOf e*P.cellsOf e+j%P.cellsOf e=j by rw[Nat.mul_comm];exact Nat.div_add_mod _ _];exact hv
   ·simp at h
  ·rename_i hns hna;rw[agl]at h;split at h
   ·rename_i hj;obtain rfl:j=0:=ck hj;obtain rfl:t=u:=by simpa using h
    intro n;have h1:=hr n;cases n with
    |zero=>trivial
    |succ n=>
     unfold Rd at h1⊢;split at h1
     ·obtain⟨b,rfl⟩:=h1;simp at hv;subst hv;exact⟨b,rfl⟩
     ·obtain⟨k,rfl,h2⟩:=h1;simp at hv;subst hv;exact⟨k,rfl,h2⟩
     ·rcases h1 with rfl|⟨a,len,cap,rfl,h2⟩
      ·simp at hv;subst hv;exact .inl rfl
      ·simp at hv;subst hv;exact .inr ⟨a,len,cap,rfl,h2⟩
     ·rename_i fs hu;exact absurd hu (hns fs)
     ·rename_i k e hu;exact absurd hu (hna k e)
     ·trivial
   ·simp at h
def awI {u:aM} {v:ai} (hu:P.underlying u=aa .bool) (h:∀n,Rd P w n u [v]):∃b,v=.bool b:=by
 have:=h 1;unfold Rd at this;rw[hu]at this;obtain⟨b,hb⟩:=this;exact⟨b,by simpa using hb⟩
def X5 {u:aM} {v:ai} {k:fH} (hu:P.underlying u=aa (.int k)) (h:∀n,Rd P w n u [v]):∃n,v=.int k n/\k.min<=n/\n<=k.max:=by
 have:=h 1;unfold Rd at this;rw[hu]at this;obtain⟨b,hb,h2⟩:=this;exact⟨b,by simpa using hb,h2⟩
def X6 {u e:aM} {v:ai} {z:Nat} {ts:List aM} (hu:P.underlying u=aa (.slice e)) (h:∀n,Rd P w n u [v]) (hz:P.cellsOf e=z:=by kernel_rfl) (d:Nat) (dU:(bo z).map (cellAt P d e)=ts.map aa:=by kernel_rfl):
 v=.slice ae 0 0\/∃a len cap,v=.slice (aa a) len cap/\len<=cap/\cap<=maxLen/\∃c:Nat->Nat->ai,∀i,i<cap->∀j,j<z->w.cell? (a.add (i*z+j))=aa (c i j)/\∀u',ts[j]?=aa u'->∀n,Rd P w n u' [c i j]:=by
 have h1:=h 1;unfold Rd at h1;rw[hu]at h1;rcases h1 with h1|⟨a,len,cap,h1,h2,h3,_⟩
 ·exact .inl (by simpa using h1)
 ·obtain rfl:v=_:=by simpa using h1
  refine .inr ⟨a,len,cap,rfl,h2,h3,?_⟩;subst hz;have key:∀i,i<cap->∃oD,w.cells? 0 (a.add (i*P.cellsOf e)) (P.cellsOf e)=aa oD/\∀n,Rd P w n e oD:=by
   intro i hi;have aS:∀n,∃oD,w.cells? 0 (a.add (i*P.cellsOf e)) (P.cellsOf e)=aa oD/\Rd P w n e oD:=by
    intro n;have h4:=h (n+1);unfold Rd at h4;rw[hu]at h4;rcases h4 with h4|⟨a',afG,afH,h4,_,_,h5⟩
    ·simp at h4
    ·simp at h4;obtain⟨rfl,rfl,rfl⟩:=h4;exact h5 i hi
   obtain⟨oD,hc,_⟩:=aS 0;refine⟨oD,hc,λn=>?_⟩;obtain⟨awJ,zU,hr⟩:=aS n;rw[hc]at zU;obtain rfl:oD=awJ:=by simpa using zU
   exact hr
  obtain⟨C,hC⟩:=Deep.choose_lt key;refine⟨λi j=>(C i).getD j undef,λi hi j hj=>?_⟩;obtain⟨h5,h6⟩:=hC i hi;obtain⟨_,hl,lu⟩:=World.cells?_some h5;have h7:(C i)[j]?=aa ((C i).getD j undef):=by
   have cH:j<(C i).length:=oM;simp[gd,jY cH]
  refine⟨?_,λu' Po=>?_⟩
  ·have:=lu j hj;rw[h7]at this;have e1:(a.add (i*P.cellsOf e)).add j=a.add (i*P.cellsOf e+j):=by
    unfold qJ;split<;>split<;>split<;>simp_all<;>omega
   rw[e1]at this;exact this
  ·have hjt:cellAt P d e j=aa u':=by
    have h8:((bo (P.cellsOf e)).map (cellAt P d e))[j]?=aa (aa u'):=by rw[dU];simp[Po]
    simp[hj]at h8;exact h8
   exact J7 d h6 hjt h7
end
end Sx
namespace Sx
open Go Go.RowKit Go.BigFrame
def St.awK {w:aj} {bs:List ao} (h:∀y∈bs,y.wr=ag/\w.heap[y.id]?=aa y.obj):St [] w bs w:=by
 refine St.mk' (Ch.refl _ _) (λy hy=>(h y hy).2) (λy hy e=>by rw[(h y hy).1]at e;cases e) ?_;refine List.pairwise_of_forall_mem_list (λx hx y hy hc=>?_);rcases hc with hc|hc
 ·rw[(h x hx).1]at hc;cases hc
 ·rw[(h y hy).1]at hc;cases hc
end Sx
namespace Go.Proofs.YtddcipamdggcnaaGreatDoor
open Go Go.RowKit Go.BigFrame Go.WideShapes Sx Vx
def awL (u:aj):∀y∈cw u,y.wr=ag/\u.heap[y.id]?=aa y.obj:=by
 intro y hy;unfold cw at hy;rw[n8]at hy;obtain⟨⟨o,i⟩,hp,rfl⟩:=hy;refine⟨rfl,?_⟩;rw[List.mk_mem_zipIdx_iff_getElem?]at hp;simpa using hp
def afI {cs:List ai} {off z:Nat} (g:Nat->List ai) (hz:∀j,(g j).length=z):∀n,(∀k,k<n->∀j,j<z->cs[off+k*z+j]?=(g k)[j]?)->cs.drop off=(bo n).flatMap g++cs.drop (off+n*z)
 |0,_=>sP
 |n+1,h=>by
  rw[afI g hz n (λk hk=>h k oM),List.range_succ,Bi,bW];congr 1;have e:(cs.drop (off+n*z)).take z=g n:=by
   apply zv;intro j;by_cases hj:j<z
   ·rw[YH hj,Gu];exact h n oM j hj
   ·rw[ju (by simp;omega),ju (by rw[hz];omega)]
  have e2:=jH z (cs.drop (off+n*z));rw[e,List.drop_drop]at e2;rw[List.flatMap_cons,List.flatMap_nil,cT,<-e2];congr 2;rw[n9];omega
structure A4 (W:aj) (v:ai) (z:Nat) (g:Nat->List ai) (i o n c:Nat) (a:Option aI) (ty:BT) (pre post:List ai):Prop where
 v:v=.slice (bif aA n 0 then a else aa ⟨i,o,ae⟩) n c
 le:n<=c
 po:∀j,j<n->o=pre.length
 at_:W.heap[i]?=aa (.cells (pre++((bo n).flatMap g++post)).toArray ty.t ty.fz)
def A4.nil {W:aj} {z:Nat} {g:Nat->List ai} {cs:Array ai} {t:aM} {f:Nat×Nat} {i:Nat} (h:W.heap[i]?=aa (.cells cs t f)):A4 W (.slice ae 0 0) z g i 0 0 0 ae ⟨t,f⟩ [] cs.toList:=
 ⟨rfl,cY _,(λj hj=>absurd hj oM),by simpa using h⟩
def A4.so {W:aj} {z b o n c:Nat} {g:Nat->List ai} {cs:Array ai} {t:aM} {f:Nat×Nat} (hle:n<=c) (hz:∀j,(g j).length=z) (aS:W.heap[b]?=aa (.cells cs t f)) (h:∀k,k<n->∀j,j<z->W.cell? ⟨b,o+k*z+j,ae⟩=(g k)[j]?) (hp:0<z):
 ∃pre post,A4 W (.slice (aa ⟨b,o,ae⟩) n c) z g b o n c (aa ⟨b,o,ae⟩) ⟨t,f⟩ pre post:=by
 have hc:∀k,k<n->∀j,j<z->cs.toList[o+k*z+j]?=(g k)[j]?:=λk hk j hj=>by
  have:=h k hk j hj;rw[cell_of aS]at this;simpa using this
 have hs:=afI g hz n hc;by_cases hn:n=0
 ·subst hn;exact⟨[],cs.toList,by cases aA 0 0<;>rfl,hle,(λj hj=>absurd hj oM),by simpa using aS⟩
 ·refine⟨cs.toList.take o,cs.toList.drop (o+n*z),by cases aA n 0<;>rfl,hle,λj hj=>?_,?_⟩
  ·have h0:=hc 0 oM 0 hp;have:o<cs.toList.length:=by
    rcases c9 o cs.toList.length with h1|h1
    ·exact h1
    ·exfalso;rw[ju oM]at h0;have h2:=hz 0;rw[jY oM]at h0;cases h0
   rw[zr];omega
  ·rw[<-hs,jH];exact aS
def awM {W:aj} {tg tc:aM} (hG:W.heap[0]?=aa (.cells (aD .u32 64 c_) tg (0,0))) (hC:W.heap[1]?=aa (.cells #[.bool ag,.bool ag,.bool ag,.bool ag,.bool ag,.bool ag,.bool ag,.bool ag,.bool ag,.bool ag,.bool af,.bool af] tc (0,0))) {i:Nat} {b:VB} (hw:b.wr=ag) (hc:bu 0 b.c=af) (aS:W.heap[i]?=aa (.cells (ak [] b.c).toArray b.ty.t b.ty.fz)) {fr:Sd.aO->Nat×Sd.ax}:
 St [] W (lits [0,1,i] [0,1,i] [wD tg,Gb tc,b]++au [LG.bj (fr:=fr) W] []) W:=by
 refine St.awK ?_;intro y hy;rcases eI.1 hy with hy|hy
 ·simp only[lits,cF,qS,or_false]at hy;rcases hy with rfl|rfl|rfl
  ·exact⟨rfl,hG.trans kR⟩
  ·exact⟨rfl,hC.trans kR⟩
  ·rw[jz (ids':=[]) hc];exact⟨hw,aS⟩
 ·have:y∈cw W:=by
   rcases eI.1 (show y∈cw W++[]from hy)with h|h
   ·exact h
   ·cases h
  exact awL W y this
def awN (i:Nat):Gl gS [0,1,i]:=by
 intro g j hg;unfold gS at hg;split at hg
 ·obtain rfl:=cG hg;exact⟨sP,rfl⟩
 ·obtain rfl:=cG hg;exact⟨sP,rfl⟩
 ·cases hg
end Go.Proofs.YtddcipamdggcnaaGreatDoor
namespace Go.Proofs.YtddcipamdggcnaaGreatDoor
section
open Go Go.RowKit Go.BigFrame Sx Go.ChangeShapes Go.WideShapes
section
variable{H:Type} {enc:aM×ai->H} {P:aG} {w:aj} {base:Nat} {spare:Nat->Bool} {held:Bool} {fuel:Nat} {t e:aM} {cs:List ai} {ps:List MemPlace}
def afJ {l:List ai} {i:Nat} {v:ai} (h:(l.drop i).take 1=[v]):l[i]?=aa v:=by
 have h1:((l.drop i).take 1)[0]?=aa v:=by rw[h];rfl
 rw[PQ]at h1;simpa using h1
def awO {k:fH} {zs:List Int} (ht:P.underlying t=aa (.array zs.length e)) (he:P.underlying e=aa (.int k)) (hc:P.cellsOf e=1) (hn:P.cellsOf t=zs.length)
 (h:PV enc P w base spare held fuel t cs=aa (.agg (zs.map λz=>.lit (.int k z)),ps)):cs=zs.map (fI k):=by
 obtain⟨xs,m,rfl,hx,hlen,wV,oz⟩:=DataW.trod_array ht h;simp only[bC,DataW.agg.injEq]at hx;rw[hn]at hlen;apply zv;intro i;by_cases hi:i<zs.length
 ·have h1:=oz i hi;rw[hc,Nat.mul_one,jY oM]at h1;obtain⟨z,e1,e2,_⟩:=DataW.trod_int he h1;have h3:(zs.map λz=>(DataW.lit (.int k z):DataW H))[i]?=(xs.map (·.1))[i]?:=by rw[hx.1]
  rw[jW,jW,jY hi,jY oM,oO,oO,e2]at h3;simp at h3;rw[afJ e1,jW,jY hi,oO,h3]
 ·rw[ju oM,ju (by simp;omega)]
def afK {n:String} {g:Nat} {c:Array ai} (hg:P.globalNamed n=aa g) (h:w.var? P n=aa c):∃t f,w.heap[g]?=aa (.cells c t f):=by
 simp only[World.var?,hg,Option.bind_some]at h;split at h
 ·next c' t f h2=>simp at h;subst h;exact⟨t,f,h2⟩
 ·cases h
end
def J8:List Int:=(bo 64).map λi=>c_ i
def X7:List (String×DataW Unit):=[("sidestick/gate.commands",Rows.laid_sidestick_gate_commands),("sidestick/sha.roots",agm)]
def awP {W:aj} (h:laidMetH prog X7 W):∃t,W.heap[0]?=aa (.cells (aD .u32 64 c_) t (0,0)):=by
 rw[MakeChecks.laidMetH_plain _ _ _ kR]at h;obtain⟨ps,⟨g0,t0,Gg,f0,p0,q0,hg0,Pp,Gi,hd0,⟨g1,t1,Pq,f1,p1,q1,Oz,Pr,vy,FB,_,hq⟩,rv⟩,_,lu⟩:=h;obtain rfl:g1=0:=cG (Oz.symm.trans (show prog.globalNamed "sidestick/sha.roots" =aa 0 by kernel_rfl));have e1:(prog.globals[0]?).map (·.type)=aa 193:=kR;obtain rfl:t1=193:=cG (Pr.symm.trans e1);have qa:Pq.toList=J8.map (fI .u32):=by
  have Ie:PV (λ_=>()) prog W 0 (λ_=>af) ag f1 193 Pq.toList=aa (.agg (J8.map λz=>.lit (.int .u32 z)),p1):=
   FB.trans (congrArg (λd=>aa (d,p1)) (show(agm:DataW Unit)=.agg (J8.map λz=>.lit (.int .u32 z)) by kernel_rfl))
  exact awO (k:=.u32) (zs:=J8) (e:=152) kR kR kR kR Ie
 obtain⟨t,f,aS⟩:=afK (show prog.globalNamed "sidestick/sha.roots" =aa 0 by kernel_rfl) vy;have Lh:Pq=aD .u32 64 c_:=by
  apply fD;rw[qa];simp[J8,aD]
 obtain⟨c,t',A5⟩:=(lu 0 0 (by
  rw[rv,hq,Lh];have:MemPlace.cell 0 0∈YL ⟨0,0,ae⟩ (aD .u32 64 c_).size:=by
   rw[GO];simp[YL]
  simp[this])).1
 rw[aS]at A5;simp only[aW,Obj.cells.injEq]at A5;refine⟨t,?_⟩;rw[aS,Lh,A5.2.2]
end
end Go.Proofs.YtddcipamdggcnaaGreatDoor
namespace Sd
open Go Go.RowKit
noncomputable def over (w:aj) (B:Nat) (u:aj):aj:=@ite _ (Below B w u) (Classical.propDecidable _) u w
def afL (w:aj) (B:Nat) (u:aj):Below B w (over w B u):=by
 unfold over;split
 ·assumption
 ·exact Below.refl _ _
@[go_sem] theorem ay4 (w:World) (B:Nat) (u:World) (b o:Nat) (h:b<B):(over w B u).cell? ⟨b,o,none⟩=w.cell? ⟨b,o,none⟩:=(afL w B u).cell h
@[go_sem] theorem ay5 (w:World) (B:Nat) (u:World) (b o:Nat) (h:b<B):(over w B u).frozen? ⟨b,o,none⟩=w.frozen? ⟨b,o,none⟩:=(afL w B u).frozen h
section
variable{P:aG}
end
def bs {w a:aj} (h:Below w.heap.size w a) {p:aI} (hp:w.heap.size<=p.block) (v:ai):Below w.heap.size w (a.setCell p v):=h.setCell hp v
def jI (d:TypeDesc):Bool:=match d with|.struct _|.array _ _=>af|_=>ag
structure afM (P:aG) (ty n:Nat):Prop where
 desc:∃d,P.underlying ty=aa d/\jI d=af
 size:(P.info? ty).map (·.size)=aa n
def afM.load {P:aG} {ty n:Nat} (h:afM P ty n) {w:aj} {g:Nat} {t:aM} {cs:Array ai} {fr:Nat×Nat} (hg:w.heap[g]?=aa (.cells cs t fr)) (hn:cs.size=n):
 (loadVar ty ⟨g,0,ae⟩).run P w=.ok (.agg cs) w:=by
 obtain⟨⟨d,hu,hd⟩,hs⟩:=h;exact run_loadVar_row w g t ty cs fr d hg hu (by cases d<;>first|rfl|simp[jI]at hd) (by rw[hs,hn])
section
variable{P:aG} {ops:Array aw} {rest:List aw} {o:aw} {a:Act} {w:aj} {Q:dE->Act->aj->Prop}
end
def J9 (n:Int):Prop:=-9223372036854775808<=n/\n<=9223372036854775807
def i64 {n:Int} (h:-9223372036854775808<=n/\n<=9223372036854775807):J9 n:=h
end Sd
namespace Sd
open Go Go.RowKit Go.ChangeShapes Go.WideShapes Go.ChangeAt
def afN {H:Type} {enc:aM×ai->H} {P:aG} (hl:laidOutB P=af) {W W':aj} (hb:Below W.heap.size W W'):
 ∀{ts:List aM} {vs:List ai} {ds:List (DataW H)} {ps:List MemPlace},(ts.all λt=>P.readableRec t&&decide (t<P.types.size))=af->
  DataW.TrodAll enc P W 0 (λ_=>af) af ts vs ds ps->(∀p∈ps,p.block<W.heap.size)->DataW.TrodAll enc P W' 0 (λb=>decide (b<W.heap.size)) af ts vs ds ps
 |[],[],[],_,_,h,_=>h
 |t::ts,v::vs,d::ds,ps,hr,h,hp=>by
  obtain⟨p,q,h1,h2,rfl⟩:=h;simp only[List.all_cons,bD,decide_eq_true_eq]at hr;exact⟨p,q,Below.trod hl hr.1.1 hr.1.2 h1 hb (λx hx=>hp x (pS _ hx)),afN hl hb hr.2 h2 (λx hx=>hp x (List.mem_append_right _ hx)),rfl⟩
 |[],[],_::_,_,_,h,_=>h.elim
 |[],_::_,_,_,_,h,_=>h.elim
 |_::_,[],_,_,_,h,_=>h.elim
 |_::_,_::_,[],_,_,h,_=>h.elim
def awQ {H:Type} {enc:aM×ai->H} {P:aG} {f:Func} {s:ChangeSpec} {W W':aj} {args:Array ai} {ds gs:List (DataW H)} {before:List MemPlace} {tb:aM}
 (hl:laidOutB P=af) (hr:(f.params.toList.all λt=>P.readableRec t&&decide (t<P.types.size))=af) (afO:s.vars=[]) (Jc:f.resultTypes=#[tb]) (Wg:P.underlying tb=aa .bool)
 (hs:s.fn H (ds++gs)={results:=[.lit (.bool af)],args:=ds,vars:=[]}) (hW:DataW.Whole enc P f.params.toList s.vars ag W args.toList ds gs before) (hb:Below W.heap.size W W'):
 s.post enc P f ag af ag ag W args (.bool af) W':=by
 have hW0:=hW;have cH:=λp hp=>hW.lt p hp;obtain⟨p,q,hA,hV,rfl,hz,hn⟩:=hW;rw[afO]at hV;obtain⟨rfl,rfl⟩:=trodVars_none hV;refine⟨ds,[],p++[],[],p,[],hW0,?_,?_,?_,?_,λh=>by cases h⟩
 ·rw[hs,Jc];exact trodAll_mk1 (shut_bool Wg _)
 ·rw[hs];exact afN hl hb hr hA (λx hx=>cH x (by simpa using hx))
 ·rw[hs,afO];exact rfl
 ·exact hb.frame _
section
variable{P:aG} {w:aj} {r:Reach} {b0:Nat} {t:aM} {v:ai}
def awR {d:TypeDesc} {ts:List aM} (hu:P.underlying t=aa d) (hd:jI d=af) (hct:P.cellTypes P.depth t=aa ts) (hn:P.cellsOf t=ts.length) (hv:DG P w r b0 t v):
 ∃cs:Array ai,v=.agg cs/\cs.size=ts.length/\∀(i:Nat) x u,cs[i]?=aa x->ts[i]?=aa u->DH P w r b0 u x:=by
 have h:∃cs,v=.agg cs/\cs.size=P.cellsOf t/\Row.okWide P w r b0 t cs:=by
  unfold DG at hv;rw[hu]at hv;cases d<;>first|exact hv|simp[jI]at hd
 obtain⟨cs,rfl,dc,ts',h1,_,h2⟩:=h;rw[hct]at h1;obtain rfl:ts=ts':=by simpa using h1
 refine⟨cs,rfl,dc.trans hn,?_⟩;intro i x u hx Po;obtain⟨u',h3,h4⟩:=h2 i x hx;have hi:i<ts.length:=by
  rcases c9 i ts.length with h|h
  ·exact h
  ·simp[h]at Po
 rw[Nat.mod_eq_of_lt hi,Po]at h3;obtain rfl:u=u':=by simpa using h3
 exact h4
def awS {d:TypeDesc} (hu:P.underlying t=aa d) (hd:jI d=ag) (hv:DG P w r b0 t v):DH P w r b0 t v:=by
 unfold DG at hv;rw[hu]at hv;cases d<;>first|exact hv|simp[jI]at hd
def awT {k:fH} (hu:P.underlying t=aa (.int k)) (h:DH P w r b0 t v):∃n,v=.int k n/\k.min<=n/\n<=k.max:=by
 unfold DH at h;rw[hu]at h;unfold Cell.ok at h;rw[hu]at h;cases v<;>simp at h;obtain⟨rfl,h1,h2⟩:=h;exact⟨_,rfl,h1,h2⟩
def awU (hu:P.underlying t=aa (.int .i64)) (h:DH P w r b0 t v):∃n,v=.int .i64 n/\J9 n:=by
 obtain⟨n,h1,h2,h3⟩:=awT hu h;exact⟨n,h1,by unfold J9;simpa[IntKind.min,IntKind.max,vm,vj]using And.intro h2 h3⟩
end
end Sd
namespace Go.Proofs.YtddcipamdggcnaaGreatDoor
section
open Go Go.RowKit Go.WideShapes Sd
def Ps (W:aj) (a:Option aI) (n c:Nat):Prop:=n<=c/\((a=ae/\n=0/\c=0)\/∃x,a=aa x/\(c:Int)<=i64.max/\W.has prog .any 0 x 5 c)
def X8 {W:aj} {v:ai} {t e:aM} (hu:prog.underlying t=aa (.slice e)) (h:DH prog W .any 0 t v):
 ∃a n c,v=.slice a n c/\n<=c/\((a=ae/\n=0/\c=0)\/∃x,a=aa x/\(c:Int)<=i64.max/\W.has prog .any 0 x e c):=by
 unfold DH at h;rw[hu]at h;cases v with
 |slice a n c=>
  unfold Cell.ok at h;rw[hu]at h;cases a with
  |none=>
   cases n<;>cases c<;>first|exact⟨_,_,_,rfl,oM,Or.inl ⟨rfl,rfl,rfl⟩⟩|(simp at h)
  |some a=>exact⟨_,_,_,rfl,h.1,Or.inr ⟨a,rfl,h.2⟩⟩
 |_=>unfold Cell.ok at h;rw[hu]at h;simp at h
def awV {W:aj} {v:ai} (hv:DG prog W .any 0 28 v):
 ∃(q:Nat->Int) (ka:Nat->Option aI) (kn kc:Nat->Nat),v=.agg (CE q ka kn kc)/\(∀i,-9223372036854775808<=q i/\q i<=9223372036854775807)/\∀i,i<4->Ps W (ka i) (kn i) (kc i):=by
 obtain⟨cs,rfl,dc,qa⟩:=awR Tryz.underlying28 rfl (ts:=[3,3,3,3,3,23,23,23,23,3,3,3,3,3,3,3,3,3,3,3,3,3,3,3,3,3,3,3,3,3,3,3,3,3,3,3,3,3,3,3,3,3,3,3,3,3,3,3,3,3,3,3,3,3,3,3]) kR kR hv;have aS:∀i,i<56->∃x,cs[i]?=aa x:=λi hi=>⟨cs[i]'(by rw[dc];exact hi),by rw[Kw]⟩;have hI:∀i,i<56->(i<5\/8<i)->∃n,cs[i]?=aa (.int .i64 n)/\J9 n:=by
  intro i hi cL;obtain⟨x,hx⟩:=aS i hi;have ht:([3,3,3,3,3,23,23,23,23,3,3,3,3,3,3,3,3,3,3,3,3,3,3,3,3,3,3,3,3,3,3,3,3,3,3,3,3,3,3,3,3,3,3,3,3,3,3,3,3,3,3,3,3,3,3,3]:List Nat)[i]?=aa 3:=by clear hx;revert i;decide
  obtain⟨n,rfl,hn⟩:=awU Tryz.underlying3 (qa i x 3 hx ht);exact⟨n,hx,hn⟩
 have hS:∀i,i<4->∃a n c,cs[5+i]?=aa (.slice a n c)/\Ps W a n c:=by
  intro i hi;obtain⟨x,hx⟩:=aS (5+i) oM;have ht:([3,3,3,3,3,23,23,23,23,3,3,3,3,3,3,3,3,3,3,3,3,3,3,3,3,3,3,3,3,3,3,3,3,3,3,3,3,3,3,3,3,3,3,3,3,3,3,3,3,3,3,3,3,3,3,3]:List Nat)[5+i]?=aa 23:=by clear hx;revert i;decide
  obtain⟨a,n,c,rfl,h1,h2⟩:=X8 Tryz.underlying23 (qa (5+i) x 23 hx ht);exact⟨a,n,c,hx,h1,h2⟩
 let q:Nat->Int:=λi=>match cs[i]?with|some (.int _ n)=>n|_=>0
 let ka:Nat->Option aI:=λi=>match cs[5+i]?with|some (.slice a _ _)=>a|_=>ae
 let kn:Nat->Nat:=λi=>match cs[5+i]?with|some (.slice _ n _)=>n|_=>0
 let kc:Nat->Nat:=λi=>match cs[5+i]?with|some (.slice _ _ c)=>c|_=>0
 have hq:∀i,i<56->(i<5\/8<i)->cs[i]?=aa (.int .i64 (q i))/\J9 (q i):=by
  intro i hi cL;obtain⟨n,hx,hn⟩:=hI i hi cL;have:q i=n:=by simp only[q,hx]
  rw[this];exact⟨hx,hn⟩
 have hk:∀i,i<4->cs[5+i]?=aa (.slice (ka i) (kn i) (kc i))/\Ps W (ka i) (kn i) (kc i):=by
  intro i hi;obtain⟨a,n,c,hx,hn⟩:=hS i hi;have h1:ka i=a:=by simp only[ka,hx]
  have h2:kn i=n:=by simp only[kn,hx]
  have h3:kc i=c:=by simp only[kc,hx]
  rw[h1,h2,h3];exact⟨hx,hn⟩
 refine⟨q,ka,kn,kc,?_,?_,λi hi=>(hk i hi).2⟩
 ·congr 1;apply Array.ext_getElem?;intro i;by_cases hi:i<56
  ·match i,hi with
   |0,_=>exact(hq 0 oM oM).1.trans rfl
   |1,_=>exact(hq 1 oM oM).1.trans rfl
   |2,_=>exact(hq 2 oM oM).1.trans rfl
   |3,_=>exact(hq 3 oM oM).1.trans rfl
   |4,_=>exact(hq 4 oM oM).1.trans rfl
   |5,_=>exact(hk 0 oM).1.trans rfl
   |6,_=>exact(hk 1 oM).1.trans rfl
   |7,_=>exact(hk 2 oM).1.trans rfl
   |8,_=>exact(hk 3 oM).1.trans rfl
   |9,_=>exact(hq 9 oM oM).1.trans rfl
   |10,_=>exact(hq 10 oM oM).1.trans rfl
   |11,_=>exact(hq 11 oM oM).1.trans rfl
   |12,_=>exact(hq 12 oM oM).1.trans rfl
   |13,_=>exact(hq 13 oM oM).1.trans rfl
   |14,_=>exact(hq 14 oM oM).1.trans rfl
   |15,_=>exact(hq 15 oM oM).1.trans rfl
   |16,_=>exact(hq 16 oM oM).1.trans rfl
   |17,_=>exact(hq 17 oM oM).1.trans rfl
   |18,_=>exact(hq 18 oM oM).1.trans rfl
   |19,_=>exact(hq 19 oM oM).1.trans rfl
   |20,_=>exact(hq 20 oM oM).1.trans rfl
   |21,_=>exact(hq 21 oM oM).1.trans rfl
   |22,_=>exact(hq 22 oM oM).1.trans rfl
   |23,_=>exact(hq 23 oM oM).1.trans rfl
   |24,_=>exact(hq 24 oM oM).1.trans rfl
   |25,_=>exact(hq 25 oM oM).1.trans rfl
   |26,_=>exact(hq 26 oM oM).1.trans rfl
   |27,_=>exact(hq 27 oM oM).1.trans rfl
   |28,_=>exact(hq 28 oM oM).1.trans rfl
   |29,_=>exact(hq 29 oM oM).1.trans rfl
   |30,_=>exact(hq 30 oM oM).1.trans rfl
   |31,_=>exact(hq 31 oM oM).1.trans rfl
   |32,_=>exact(hq 32 oM oM).1.trans rfl
   |33,_=>exact(hq 33 oM oM).1.trans rfl
   |34,_=>exact(hq 34 oM oM).1.trans rfl
   |35,_=>exact(hq 35 oM oM).1.trans rfl
   |36,_=>exact(hq 36 oM oM).1.trans rfl
   |37,_=>exact(hq 37 oM oM).1.trans rfl
   |38,_=>exact(hq 38 oM oM).1.trans rfl
   |39,_=>exact(hq 39 oM oM).1.trans rfl
   |40,_=>exact(hq 40 oM oM).1.trans rfl
   |41,_=>exact(hq 41 oM oM).1.trans rfl
   |42,_=>exact(hq 42 oM oM).1.trans rfl
   |43,_=>exact(hq 43 oM oM).1.trans rfl
   |44,_=>exact(hq 44 oM oM).1.trans rfl
   |45,_=>exact(hq 45 oM oM).1.trans rfl
   |46,_=>exact(hq 46 oM oM).1.trans rfl
   |47,_=>exact(hq 47 oM oM).1.trans rfl
   |48,_=>exact(hq 48 oM oM).1.trans rfl
   |49,_=>exact(hq 49 oM oM).1.trans rfl
   |50,_=>exact(hq 50 oM oM).1.trans rfl
   |51,_=>exact(hq 51 oM oM).1.trans rfl
   |52,_=>exact(hq 52 oM oM).1.trans rfl
   |53,_=>exact(hq 53 oM oM).1.trans rfl
   |54,_=>exact(hq 54 oM oM).1.trans rfl
   |55,_=>exact(hq 55 oM oM).1.trans rfl
   |i+56,h=>exact absurd h oM
  ·rw[Kq (by rw[dc];exact YE hi),Kq (YE hi)]
 ·intro i;by_cases hi:i<56/\(i<5\/8<i)
  ·exact(hq i hi.1 hi.2).2
  ·have:q i=0:=by
    by_cases h5:i<56
    ·obtain⟨a,n,c,hx,_⟩:=hS (i-5) oM;rw[show 5+(i-5)=i by omega]at hx;simp only[q,hx]
    ·have hx:cs[i]?=ae:=Kq (by rw[dc];exact YE h5);simp only[q,hx]
   rw[this];omega
end
section
open Go Go.RowKit Go.WideShapes Sd Sx
def awW {W:aj} {a:Option aI} {m c:Nat} (lu:∀n,Rd prog W n 23 [.slice a m c]) (hk:Ps W a m c):∃kb:Nat->Int,VM [] W a m c kb:=by
 obtain⟨h1,h2⟩:=hk;rcases h2 with⟨e1,e2,e3⟩|⟨x,e1,hc,hh⟩
 ·exact⟨λ_=>0,h1,λ_=>⟨e2,e3⟩,λad ha=>by rw[e1]at ha;cases ha⟩
 ·rcases X6 Tryz.underlying23 lu (z:=1) kR 5 (ts:=[5]) kR with h0|⟨a',afG,afH,h0,_,_,C,hC⟩
  ·rw[e1]at h0;simp at h0
  ·rw[e1]at h0;simp only[agn,aW]at h0;obtain⟨rfl,rfl,rfl⟩:=h0;refine⟨λj=>match C j 0 with|.int _ n=>n|_=>0,h1,λh=>(by rw[e1]at h;cases h),λad ha=>⟨sP,λj hj=>?_⟩⟩;rw[e1]at ha;obtain rfl:=cG ha;obtain⟨h3,h4⟩:=hC j oM 0 oM;obtain⟨n,h5,_⟩:=X5 Tryz.underlying5 (h4 _ rfl);simp only[h5]at h3⊢;simpa using h3
def awX {W:aj} {v:ai} (hv:DG prog W .any 0 28 v) (hr:∀n,Rd prog W n 28 v.cells.toList):
 ∃(q:Nat->Int) (ka:Nat->Option aI) (kn kc:Nat->Nat) (kb:Nat->Nat->Int),v=.agg (CE q ka kn kc)/\(∀i,-9223372036854775808<=q i/\q i<=9223372036854775807)/\∀i,i<4->VM [] W (ka i) (kn i) (kc i) (kb i):=by
 obtain⟨q,ka,kn,kc,rfl,hq,hk⟩:=awV hv;have key:∀i,i<4->∃kb:Nat->Int,VM [] W (ka i) (kn i) (kc i) kb:=by
  intro i hi;have lu:∀n,Rd prog W n 23 [.slice (ka i) (kn i) (kc i)]:=by
   have h5:(CE q ka kn kc)[5+i]?=aa (.slice (ka i) (kn i) (kc i)):=by
    match i,hi with
    |0,_=>rfl
    |1,_=>rfl
    |2,_=>rfl
    |3,_=>rfl
    |i+4,h=>exact absurd h oM
   have oV:cellAt prog 6 28 (5+i)=aa 23:=by
    have e:i=0\/i=1\/i=2\/i=3:=oM;rcases e with rfl|rfl|rfl|rfl
    ·show cellAt prog 6 28 5=aa 23;kernel_rfl
    ·show cellAt prog 6 28 6=aa 23;kernel_rfl
    ·show cellAt prog 6 28 7=aa 23;kernel_rfl
    ·show cellAt prog 6 28 8=aa 23;kernel_rfl
   exact J7 6 (P:=prog) (w:=W) (t:=28) (cs:=(CE q ka kn kc).toList) (j:=5+i) hr oV (by simpa using h5)
  exact awW lu (hk i hi)
 obtain⟨kb,hkb⟩:=Deep.choose_lt key;exact⟨q,ka,kn,kc,kb,rfl,hq,hkb⟩
end
section
open Go Go.RowKit Go.BigFrame Go.WideShapes Go.ChangeShapes Sd Sx Vx
section
variable{H:Type} {enc:aM×ai->H} {P:aG} {w:aj} {base:Nat} {spare:Nat->Bool} {held:Bool} {fuel:Nat} {t e:aM} {cs:List ai} {ps:List MemPlace}
def awY {zs:List Bool} (ht:P.underlying t=aa (.array zs.length e)) (he:P.underlying e=aa .bool) (hc:P.cellsOf e=1) (hn:P.cellsOf t=zs.length)
 (h:PV enc P w base spare held fuel t cs=aa (.agg (zs.map λz=>.lit (.bool z)),ps)):cs=zs.map DD:=by
 obtain⟨xs,m,rfl,hx,hlen,wV,oz⟩:=DataW.trod_array ht h;simp only[bC,DataW.agg.injEq]at hx;rw[hn]at hlen;apply zv;intro i;by_cases hi:i<zs.length
 ·have h1:=oz i hi;rw[hc,Nat.mul_one,jY oM]at h1;obtain⟨z,e1,e2⟩:=DataW.trod_bool he h1;have h3:(zs.map λz=>(DataW.lit (.bool z):DataW H))[i]?=(xs.map (·.1))[i]?:=by rw[hx.1]
  rw[jW,jW,jY hi,jY oM,oO,oO]at h3;have e3:=congrArg Prod.fst e2;rw[e3]at h3;simp at h3;rw[afJ e1,jW,jY hi,oO,h3]
 ·rw[ju oM,ju (by simp;omega)]
end
def Pt:List Bool:=[ag,ag,ag,ag,ag,ag,ag,ag,ag,ag,af,af]
def awZ {W:aj} (h:laidMetH prog X7 W):∃t,W.heap[1]?=aa (.cells #[.bool ag,.bool ag,.bool ag,.bool ag,.bool ag,.bool ag,.bool ag,.bool ag,.bool ag,.bool ag,.bool af,.bool af] t (0,0)):=by
 rw[MakeChecks.laidMetH_plain _ _ _ kR]at h;obtain⟨ps,⟨g0,t0,Gg,f0,p0,q0,hg0,Pp,Gi,hd0,⟨g1,t1,Pq,f1,p1,q1,Oz,Pr,vy,FB,_,hq⟩,rv⟩,_,lu⟩:=h;obtain rfl:g0=1:=cG (hg0.symm.trans (show prog.globalNamed "sidestick/gate.commands" =aa 1 by kernel_rfl));have e1:(prog.globals[1]?).map (·.type)=aa 285:=kR;obtain rfl:t0=285:=cG (Pp.symm.trans e1);have qa:Gg.toList=Pt.map DD:=by
  have Ie:PV (λ_=>()) prog W 0 (λ_=>af) ag f0 285 Gg.toList=aa (.agg (Pt.map λz=>.lit (.bool z)),p0):=
   hd0.trans (congrArg (λd=>aa (d,p0)) (show(Rows.laid_sidestick_gate_commands:DataW Unit)=.agg (Pt.map λz=>.lit (.bool z)) by kernel_rfl))
  exact awY (zs:=Pt) (e:=4) kR kR kR kR Ie
 obtain⟨t,f,aS⟩:=afK (show prog.globalNamed "sidestick/gate.commands" =aa 1 by kernel_rfl) Gi;have w9:Gg=#[.bool ag,.bool ag,.bool ag,.bool ag,.bool ag,.bool ag,.bool ag,.bool ag,.bool ag,.bool ag,.bool af,.bool af]:=by
  apply fD;rw[qa];rfl
 obtain⟨c,t',A5⟩:=(lu 1 0 (by
  rw[rv,w9];have:MemPlace.cell 1 0∈YL ⟨1,0,ae⟩ 12:=by
   simp[YL]
  exact pS _ (pS _ this))).1
 rw[aS]at A5;simp only[aW,Obj.cells.injEq]at A5;refine⟨t,?_⟩;rw[aS,w9,A5.2.2]
def afP {W:aj} {v:ai} (h:∀n,Rd prog W n 23 [v]):∃a n c,v=.slice a n c/\jc W a n c (dB W a):=by
 rcases X6 Tryz.underlying23 h (z:=1) kR 5 (ts:=[5]) kR with rfl|⟨a,len,cap,rfl,hle,_,C,hC⟩
 ·exact⟨ae,0,0,rfl,cY _,λ_=>⟨rfl,rfl⟩,λx e=>nomatch e⟩
 ·have hb:∀j,j<len->∃n,C j 0=.int .u8 n/\0<=n/\n<=255:=λj hj=>by
   obtain⟨n,h5,h6⟩:=X5 Tryz.underlying5 ((hC j oM 0 oM).2 _ rfl);exact⟨n,h5,by simpa[IntKind.min,IntKind.max,vm,vj]using h6⟩
  refine⟨aa a,len,cap,rfl,atI (f:=λj=>match C j 0 with|.int _ n=>n|_=>0) ⟨hle,(λe=>nomatch e),λx e j hj=>?_⟩ λj hj=>?_⟩
  ·obtain rfl:=cG e;obtain⟨n,h5,_⟩:=hb j hj;have h3:=(hC j oM 0 oM).1;simp only[h5]at h3⊢;simpa using h3
  ·obtain⟨n,h5,h6⟩:=hb j hj;simp only[h5];exact h6
def aw0 {W:aj} {v:ai} (hv:DG prog W .any 0 28 v) (hr:∀n,Rd prog W n 28 v.cells.toList):
 ∃(q:Nat->Int) (ka:Nat->Option aI) (kn kc:Nat->Nat),v=.agg (sW ⟨q,λ_=>(0,λ_=>0)⟩ ka kn kc).toArray/\∀j,j<4->jc W (ka j) (kn j) (kc j) (dB W (ka j)):=by
 obtain⟨q,ka,kn,kc,kb,rfl,hq,hk⟩:=awX hv hr;refine⟨q,ka,kn,kc,rfl,λj hj=>?_⟩;have lu:∀n,Rd prog W n 23 [.slice (ka j) (kn j) (kc j)]:=by
  have h5:(CE q ka kn kc)[5+j]?=aa (.slice (ka j) (kn j) (kc j)):=by
   match j,hj with
   |0,_=>rfl
   |1,_=>rfl
   |2,_=>rfl
   |3,_=>rfl
   |j+4,h=>exact absurd h oM
  have oV:cellAt prog 6 28 (5+j)=aa 23:=by
   have e:j=0\/j=1\/j=2\/j=3:=oM;rcases e with rfl|rfl|rfl|rfl
   ·show cellAt prog 6 28 5=aa 23;kernel_rfl
   ·show cellAt prog 6 28 6=aa 23;kernel_rfl
   ·show cellAt prog 6 28 7=aa 23;kernel_rfl
   ·show cellAt prog 6 28 8=aa 23;kernel_rfl
  exact J7 6 (P:=prog) (w:=W) (t:=28) (cs:=(CE q ka kn kc).toList) (j:=5+j) hr oV (by simpa using h5)
 obtain⟨a,n,c,e,h⟩:=afP lu;simp only[agn]at e;obtain⟨rfl,rfl,rfl⟩:=e;exact h
def aw1 {W:aj} {v:ai} (lu:DH prog W .any 0 29 v) (zj:∀k,Rd prog W k 29 [v]) {b0:Nat} {Gg:Array ai} {t0:aM} {f0:Nat×Nat} (h0:W.heap[b0]?=aa (.cells Gg t0 f0)):
 ∃(es:Nat->fK) (i o n c:Nat) (a:Option aI) (ty:BT) (pre post:List ai),A4 W v 10 (jF es) i o n c a ty pre post/\(∀j,j<n->jc W (es j).x (es j).n (es j).c (dB W (es j).x))/\∀j,Sd.kr (es j).s.x:=by
 have z4:Sd.kr ⟨0,0,0,0⟩:=Sd.FF
 let od:fK:=⟨0,0,ae,0,0,⟨ag,⟨0,0,0,0⟩,ag⟩,ag⟩
 obtain⟨a,m,c,rfl,hmc,ho⟩:=X8 Tryz.underlying29 lu;rcases ho with⟨rfl,rfl,rfl⟩|⟨x,rfl,ay6,afQ⟩
 ·exact⟨λ_=>od,b0,0,0,0,ae,_,[],_,A4.nil h0,λj hj=>absurd hj oM,λ_=>z4⟩
 obtain⟨bk,off,spot⟩:=x;obtain rfl:spot=ae:=afQ.2.1;obtain⟨row,cells,X9,_⟩:=afQ.2.2;have aw2:∃cs t f,W.heap[bk]?=aa (.cells cs t f):=by
  unfold World.shape? at X9;split at X9
  ·rename_i cs t f hh;exact⟨cs,t,f,hh⟩
  ·cases X9
 obtain⟨cs,t,f,aS⟩:=aw2;rcases X6 Tryz.underlying29 zj (z:=10) rfl 5 (ts:=[3,3,23,4,3,3,3,3,4,4])with Pu|⟨a',afG,afH,Pu,_,_,C,hC⟩
 ·simp at Pu
 simp only[agn,aW]at Pu;obtain⟨rfl,rfl,rfl⟩:=Pu
 let num:ai->Int:=λv=>match v with|.int _ n=>n|_=>0
 let tv:ai->Bool:=λv=>match v with|.bool b=>b|_=>ag
 let sa:ai->Option aI:=λv=>match v with|.slice a _ _=>a|_=>ae
 let sn:ai->Nat:=λv=>match v with|.slice _ n _=>n|_=>0
 let sc:ai->Nat:=λv=>match v with|.slice _ _ c=>c|_=>0
 have hB:∀k,k<c->C k 2=.slice (sa (C k 2)) (sn (C k 2)) (sc (C k 2))/\jc W (sa (C k 2)) (sn (C k 2)) (sc (C k 2)) (dB W (sa (C k 2))):=λk hk=>by
  obtain⟨a,n,c',e,h⟩:=afP ((hC k hk 2 oM).2 _ rfl);rw[e];exact⟨rfl,h⟩
 have hI:∀k,k<c->∀j,(j=0\/j=1\/j=4\/j=5\/j=6\/j=7)->C k j=.int .i64 (num (C k j))/\Sd.Bd (num (C k j)):=λk hk j hj=>by
  have ht:([3,3,23,4,3,3,3,3,4,4]:List Nat)[j]?=aa 3:=by
   rcases hj with rfl|rfl|rfl|rfl|rfl|rfl<;>rfl
  obtain⟨n,h1,h2⟩:=X5 Tryz.underlying3 ((hC k hk j oM).2 _ ht);rw[h1];have h3:-9223372036854775808<=n/\n<=9223372036854775807:=by simpa[IntKind.min,IntKind.max,vm,vj]using h2
  exact⟨rfl,h3⟩
 have hT:∀k,k<c->∀j,(j=3\/j=8\/j=9)->C k j=.bool (tv (C k j)):=λk hk j hj=>by
  have ht:([3,3,23,4,3,3,3,3,4,4]:List Nat)[j]?=aa 4:=by
   rcases hj with rfl|rfl|rfl<;>rfl
  obtain⟨n,h1⟩:=awI Tryz.underlying4 ((hC k hk j oM).2 _ ht);rw[h1]
 let es:Nat->fK:=λk=>if k<c then⟨num (C k 0),num (C k 1),sa (C k 2),sn (C k 2),sc (C k 2),⟨tv (C k 3),⟨num (C k 4),num (C k 5),num (C k 6),num (C k 7)⟩,tv (C k 8)⟩,tv (C k 9)⟩else od
 have gE:∀k,k<c->es k=⟨num (C k 0),num (C k 1),sa (C k 2),sn (C k 2),sc (C k 2),⟨tv (C k 3),⟨num (C k 4),num (C k 5),num (C k 6),num (C k 7)⟩,tv (C k 8)⟩,tv (C k 9)⟩:=λk hk=>if_pos hk;have Bt:∀q:Nat,(⟨bk,off,ae⟩:aI).add q=⟨bk,off+q,ae⟩:=λq=>by
  by_cases hq:q=0
  ·subst hq;rfl
  ·simp[qJ,hq]
 have oV:∀k,k<m->∀j,j<10->W.cell? ⟨bk,off+k*10+j,ae⟩=(jF es k)[j]?:=by
  intro k hk j hj;have mN:k<c:=oM;have h1:W.cell? ⟨bk,off+k*10+j,ae⟩=aa (C k j):=by
   have:=(hC k mN j hj).1;rw[Bt]at this;rw[tY];exact this
  rw[h1];have e:jF es k=[.int .i64 (num (C k 0)),.int .i64 (num (C k 1)),.slice (sa (C k 2)) (sn (C k 2)) (sc (C k 2)),.bool (tv (C k 3)),.int .i64 (num (C k 4)),.int .i64 (num (C k 5)),.int .i64 (num (C k 6)),.int .i64 (num (C k 7)),.bool (tv (C k 8)),.bool (tv (C k 9))]:=by
   unfold jF;rw[gE k mN];rfl
  rw[e]
  match j,hj with
  |0,_=>rw[(hI k mN 0 oM).1];rfl
  |1,_=>rw[(hI k mN 1 oM).1];rfl
  |2,_=>rw[(hB k mN).1];rfl
  |3,_=>rw[hT k mN 3 oM];rfl
  |4,_=>rw[(hI k mN 4 oM).1];rfl
  |5,_=>rw[(hI k mN 5 oM).1];rfl
  |6,_=>rw[(hI k mN 6 oM).1];rfl
  |7,_=>rw[(hI k mN 7 oM).1];rfl
  |8,_=>rw[hT k mN 8 oM];rfl
  |9,_=>rw[hT k mN 9 oM];rfl
  |j+10,h=>omega
 obtain⟨pre,post,hR⟩:=A4.so (z:=10) (g:=jF es) hmc (λj=>av4 es j) aS oV dC;refine⟨es,bk,off,m,c,_,_,pre,post,hR,λj hj=>?_,λj=>?_⟩
 ·rw[gE j oM];exact(hB j oM).2
 ·by_cases hj:j<c
  ·rw[gE j hj];exact⟨(hI j hj 4 oM).2,(hI j hj 5 oM).2,(hI j hj 6 oM).2,(hI j hj 7 oM).2⟩
  ·have:es j=od:=if_neg hj;rw[this];exact z4
def open_i2 {W:aj} {v:ai} (hv:DG prog W .any 0 30 v):∃x0 x1,v=.agg #[.int .i64 x0,.int .i64 x1]:=by
 obtain⟨cs,rfl,hs,h⟩:=awR (ts:=[3,3]) Tryz.underlying30 rfl kR kR hv;rcases cs with⟨l⟩
 match l,hs with
 |[a,b],_=>
  obtain⟨z0,rfl,_⟩:=awU Tryz.underlying3 (h 0 a _ rfl rfl);obtain⟨z1,rfl,_⟩:=awU Tryz.underlying3 (h 1 b _ rfl rfl);exact⟨z0,z1,rfl⟩
end
section
open Go Go.RowKit Go.BigFrame Sx Vx
variable{fr:Sd.aO->Nat×Sd.ax}
def sj:VB:=⟨af,⟨133,(0,0)⟩,[.raw (.slice ae 0 0)]⟩
def dQ.new (a:Nat->Nat):dQ:=⟨a,λ_=>dq.nil⟩
def afR (bl:List VB) (K:VK (LG fr)):VK (LG fr):=λv b c=>match v,c with
 |.ptr i 0,.bj u::.core g fB::rest=>(match b.drop bl.length with
  |[⟨af,⟨90,(0,0)⟩,[.ptr ic 0,.int .i64 (.ofNat 0),.ptr a0 0,.ptr a1 0,.ptr a2 0]⟩,⟨af,⟨131,(0,0)⟩,cc⟩,⟨af,⟨133,(0,0)⟩,[.raw (.slice ae 0 0)]⟩,⟨af,⟨133,(0,0)⟩,[.raw (.slice ae 0 0)]⟩,⟨af,⟨133,(0,0)⟩,[.raw (.slice ae 0 0)]⟩,⟨af,⟨181,(0,0)⟩,tc⟩]=>(match CM cc,tI tc with
   |some x,aa y=>cond (aA i bl.length&&(aA ic (bl.length+1)&&(aA a0 (bl.length+2)&&(aA a1 (bl.length+3)&&(aA a2 (bl.length+4)&&(aA x.it (bl.length+5)&&bY bl.length bl))))))
    ((b.take bl.length=bl/\x=mX g.d.k x.it (gj x y g.d g.dx g.sx)/\y.b=x.p.cO/\y.m=x.p.iM)/\∀(ic it:Nat) (a:Nat->Nat),K (.ptr bl.length 0) (bl++[eT.R ⟨g.d.k,gj x y g.d g.dx g.sx,g.F,fB,.new a,ic,it⟩]) (.bj u::.oH ⟨g.d.k,gj x y g.d g.dx g.sx,g.F,fB,.new a,ic,it⟩::rest)) False
   |_,_=>False)
  |_=>False)
 |_,_=>False
def J_ {G:Type}:dk G:=λargs bl ch K=>match args with
 |[]=>cond (bY bl.length bl) (K (.ptr bl.length 0) (bl++[sj]) ch) False
 |_=>False
def aw3 (K:VK Empty):br (bM prog cJ []) 60 33 [] [] [] (bA 0 K)=K (.ptr 0 0) [sj] []:=kR
def aw4 {G:Type} [Bl G] {gl:Nat->Option Nat}:Sound (G:=G) prog gl 33 J_:=by
 intro args ids bl ch R ms w0 w K hg hl S hc;unfold J_ at hc;split at hc
 ·cases hq:bY bl.length bl with
  |false=>rw[hq]at hc;exact hc.elim
  |true=>
   rw[hq]at hc;have cV:br (bM prog cJ ([]:List (bK Empty))) 60 33 [] [] [] (bA 0 λv b c=>v=.ptr 0 0/\b=[sj]):=by
    rw[aw3];exact⟨rfl,rfl⟩
   have S1:St ms w0 (au ([]:List Empty) (lits ids ids bl++au ch R)) w:=S;refine(B6 (C:=bM prog cJ ([]:List (bK Empty))) (aH.nil (P:=prog) (gl:=cJ)).T (aH.nil (P:=prog) (gl:=cJ)).Q rfl cV S1).mono ?_;rintro v w' ⟨x,more,bl',ch',rfl,h1,S',hK⟩;obtain⟨v2,cn,bl2,hv,cX,S2,rfl,rfl⟩:=iP (n0:=0) h1 (oQ _) S' hK
   match cn,cX with
   |[y],_=>
    refine⟨.ptr bl.length 0,[y],_,ch,?_,by simp[hl],?_,hc⟩
    ·rw[hv];have:(ids++[y]).getD bl.length 0=y:=by rw[<-hl];simp[gd]
     simp only[den,this,PS,fQ];rfl
    ·rw[fu _ _ _ _ hl,fw _ _ (by rw[hl];exact hq)];refine S2.perm ?_;have e:au ch' (lits ids ids bl++au ch R)=lits ids ids bl++au ch R:=by
      cases ch' with
      |nil=>rfl
      |cons a l=>exact a.elim
     rw[e];show mE ([aC [y] y sj]++(lits ids ids bl++au ch R)) ((lits ids ids bl++[aC (ids++[y]) y sj])++au ch R);rw[jz (ids:=ids++[y]) (ids':=[y]) (b:=sj) rfl];exact dR λf=>by simp only[dZ,j5,oc];omega
   |[],h=>simp at h
   |_::_::_,h=>simp at h
 ·exact hc.elim
def aw5 {G:Type}:jo (J_ (G:=G)):=by
 intro args bl ch K hc;unfold J_ at hc⊢;split at hc
 ·revert hc;cases bY bl.length bl with
  |false=>exact λh=>h.elim
  |true=>exact λhc=>⟨hc,_,rfl⟩
 ·exact hc.elim
def X_ (fr:Sd.aO->Nat×Sd.ax):List (bK (LG fr)):=[⟨32,ag,XE⟩,⟨33,af,J_⟩]
def afS:aH prog gS (X_ fr):=aH.cons ⟨avQ,λe=>by cases e⟩ (aH.cons ⟨aw4,λ_=>aw5⟩ aH.nil)
def Pv (P:aG):dk (LG fr):=λargs bl ch K=>br (bM P gS (X_ fr)) 60 11 args bl ch (bA bl.length (afR bl λv b c=>(∃e,b=bl++e)/\K v b c))
def aw6:Sound prog gS 11 (Pv (fr:=fr) prog):=by
 intro args ids bl ch R ms w0 w K hg hl S hc;refine(eZ afS.T afS.Q 60 (C:=bM prog gS (X_ fr)) hg hl S hc).mono ?_;rintro v w' ⟨x,more,bl',ch',rfl,h1,S',hK⟩;obtain⟨v2,cn,bl2,hv,cX,S2,lb⟩:=iP (n0:=bl.length) h1 (by simp[hl]) S' hK;have yN:(ids++more).take bl.length=ids:=by rw[<-hl];exact List.take_left
 rw[yN]at hv cX S2;clear hK hc S';unfold afR at lb;split at lb
 ·rename_i i u g fB rest;split at lb
  ·rename_i ic a0 a1 a2 cc tc aw7;split at lb
   ·rename_i x y hx hy;have hJ:bl2=bl2.take bl.length++[⟨af,⟨90,(0,0)⟩,[.ptr ic 0,.int .i64 (.ofNat 0),.ptr a0 0,.ptr a1 0,.ptr a2 0]⟩,⟨af,⟨131,(0,0)⟩,cc⟩,sj,sj,sj,⟨af,⟨181,(0,0)⟩,tc⟩]:=by
     have h:=(jH bl.length bl2).symm;rw[aw7]at h;exact h
    cases hq:aA i bl.length&&(aA ic (bl.length+1)&&(aA a0 (bl.length+2)&&(aA a1 (bl.length+3)&&(aA a2 (bl.length+4)&&(aA x.it (bl.length+5)&&bY bl.length bl)))))with
    |false=>rw[hq]at lb;exact lb.elim
    |true=>
     rw[hq]at lb;obtain⟨⟨q0,q1,q2,q3⟩,hK3⟩:=lb;rw[q0]at hJ;simp only[bD]at hq;obtain⟨b0,b1,b2,b3,b4,b5,hw⟩:=hq;obtain rfl:=ck b0;obtain rfl:=ck b1;obtain rfl:=ck b2;obtain rfl:=ck b3;obtain rfl:=ck b4;have b5:=ck b5;have hm6:cn.length=6:=by
      have h6:bl2.length=bl.length+6:=by rw[hJ];simp
      rw[fL]at cX;omega
     match cn,hm6 with
     |[m0,m1,m2,m3,m4,m5],_=>
      have hn:bl.length=ids.length:=hl.symm;have g0:(ids++[m0,m1,m2,m3,m4,m5]).getD bl.length 0=m0:=by rw[hn];simp[gd]
      have g1:(ids++[m0,m1,m2,m3,m4,m5]).getD (bl.length+1) 0=m1:=by rw[hn];simp[gd]
      have g2:(ids++[m0,m1,m2,m3,m4,m5]).getD (bl.length+2) 0=m2:=by rw[hn];simp[gd]
      have g3:(ids++[m0,m1,m2,m3,m4,m5]).getD (bl.length+3) 0=m3:=by rw[hn];simp[gd]
      have g4:(ids++[m0,m1,m2,m3,m4,m5]).getD (bl.length+4) 0=m4:=by rw[hn];simp[gd]
      have g5:(ids++[m0,m1,m2,m3,m4,m5]).getD (bl.length+5) 0=m5:=by rw[hn];simp[gd]
      obtain rfl:=IH hx;obtain rfl:=yy hy
      let s:=gj x y g.d g.dx g.sx
      let a:Nat->Nat:=λj=>match j with|0=>m2|1=>m3|_=>m4
      let m:eT fr:=⟨g.d.k,s,g.F,fB,.new a,m1,m5⟩
      have hcB:(⟨af,⟨131,(0,0)⟩,CL x⟩:VB)=fy g.d.k x.it s:=by unfold fy;rw[<-q1]
      have htB:(⟨af,⟨181,(0,0)⟩,cP y⟩:VB)=fg s:=by
       unfold fg;have:y=v3 s:=by
        obtain⟨y1,y2,y3,y4,y5,y6,y7,y8⟩:=y;simp only at q2 q3;subst q2 q3;rfl
       rw[<-this]
      rw[hJ,hcB,htB,fu _ _ _ _ hl,fw _ _ (by rw[hl];exact hw)]at S2
      let o:Obj:=.cells #[.pointer (aa ⟨m1,0,ae⟩),.int .i64 0,.pointer (aa ⟨m2,0,ae⟩),.pointer (aa ⟨m3,0,ae⟩),.pointer (aa ⟨m4,0,ae⟩)] 90 (0,0)
      let so:Obj:=.cells #[.slice ae 0 0] 133 (0,0)
      have e6:lits (ids++[m0,m1,m2,m3,m4,m5]) [m0,m1,m2,m3,m4,m5] [⟨af,⟨90,(0,0)⟩,[.ptr (bl.length+1) 0,.int .i64 (.ofNat 0),.ptr (bl.length+2) 0,.ptr (bl.length+3) 0,.ptr (bl.length+4) 0]⟩,fy g.d.k x.it s,sj,sj,sj,fg s]=
       [⟨m0,af,o⟩,aC (cQ m1 m5) m1 (fy g.d.k 3 s),⟨m2,af,so⟩,⟨m3,af,so⟩,⟨m4,af,so⟩,aC [] m5 (fg s)]:=by
       simp only[lits];rw[Ou (a:=m1) (b:=m5) m1 (by rw[b5];exact g5),jz (ids':=[]) (yA s)];simp only[aC,sj,ak,den,cl,g1,g2,g3,g4];rfl
      have eR:aC (ids++[m0]) m0 m.R=⟨m0,ag,o⟩:=rfl;have eC:m.cB=[aC (cQ m1 m5) m1 (fy g.d.k 3 s),aC [] m5 (fg s)]:=by
       unfold eT.cB;simp only[du,lits,List.drop];rw[jz (ids':=[]) (b:=fg m.s) (yA m.s)]
      have eG:m.G.B=[⟨m2,af,so⟩,⟨m3,af,so⟩,⟨m4,af,so⟩]:=rfl;rw[e6]at S2;have S3:St ms w0 (⟨m0,af,o⟩::(lits ids ids bl++([aC (cQ m1 m5) m1 (fy g.d.k 3 s),⟨m2,af,so⟩,⟨m3,af,so⟩,⟨m4,af,so⟩,aC [] m5 (fg s)]++(cw u++((g.F.B++fB)++au rest R))))) w':=by
       refine S2.perm ?_;show mE ((lits ids ids bl++[_,_,_,_,_,_])++(cw u++((g.F.B++fB)++au rest R))) _;exact dR λf=>by simp only[dZ,j5,oc];omega
      have S4:=S3.mq;refine⟨.ptr bl.length 0,[m0],bl++[m.R],.bj u::.oH m::rest,?_,by simp[hl],?_,(hK3 m1 m5 a).2⟩
      ·rw[hv];have:(ids++[m0]).getD bl.length 0=m0:=by rw[hn];simp[gd]
       simp only[den,g0,this]
      ·rw[fu _ _ _ _ hl,fw _ _ (by rw[hl];exact hw)];show St ms w0 ((lits ids ids bl++[aC (ids++[m0]) m0 m.R])++(cw u++((m.cB++(g.F.B++(fB++m.G.B)))++au rest R))) w';rw[eR,eC,eG];refine S4.perm ?_;exact dR λf=>by simp only[dZ,j5,oc];omega
   ·exact lb.elim
  ·exact lb.elim
 ·exact lb.elim
def aw8:jo (Pv (fr:=fr) prog):=by
 intro args bl ch K hc;unfold Pv at hc⊢;have e:(λ(v:V) (b:List VB) (c:List (LG fr))=>(∃e,b=bl++e)/\(K v b c/\∃e,b=bl++e))=λv b c=>(∃e,b=bl++e)/\K v b c:=by
  funext v b c;exact propext ⟨λh=>⟨h.1,h.2.1⟩,λh=>⟨h.1,h.2,h.1⟩⟩
 rw[e];exact hc
section
variable{G:Type} [Bl G]
def aw9 {C:Ctx G} {f n:Nat} {ids:List Nat} {bl:List VB} {ch0 rest:List G} {R:List ao} {ms:List Nat} {w0 w:aj} (hT:∀f c,C.T f=aa c->Sound C.P C.gl f c) (hQ:nG C) (hl:ids.length=bl.length) (S:St ms w0 (lits ids ids bl++au (ch0++rest) R) w)
 (is:List Nat) (hn:is.Nodup) (hg:Gl C.gl (is.map λi=>ids.getD i 0)) (bs:List VB) (hb:is.map (bl[·]?)=bs.map aa) (hw:bY 0 bs=af) {args args':List V} (cN:aE ids args=aE (is.map λi=>ids.getD i 0) args') {v0:V} (Gi:da 0 v0=af)
 (cV:br C n f args' bs ch0 (bA bs.length λv b c=>v=v0/\b.take bs.length=bs/\∃c2,c=ch0++c2)):aX C.P f (aE ids args).toArray w λv w'=>v=den [] v0/\St ms w0 (lits ids ids bl++au (ch0++rest) R) w':=by
 have hlen:is.length=bs.length:=by have:=congrArg List.length hb;simpa using this
 have t_:∀(k i:Nat),is[k]?=aa i->∃b,bs[k]?=aa b/\bl[i]?=aa b:=by
  intro k i hk;have:=congrArg (λl=>l[k]?) hb;simp only[jW,hk,oO]at this;cases hbk:bs[k]?with
  |none=>rw[hbk]at this;simp at this
  |some b=>rw[hbk]at this;simp only[oO,aW]at this;exact⟨b,rfl,this⟩
 have cH:∀i∈is,i<bl.length:=by
  intro i hi;obtain⟨k,hk⟩:=DA hi;obtain⟨b,_,h2⟩:=t_ k i hk;exact lT h2
 obtain⟨r,hr,hp⟩:=Fb (bl:=bl) (ids:=ids) hl hn cH;have kl:=hp bl rfl;have Eg:∀(Ya:List Nat),(is.map λj=>aC ids (ids.getD j 0) (bl.getD j e_))=lits Ya (is.map λi=>ids.getD i 0) bs:=by
  intro Ya;clear hr hp kl cN cV cH hg;induction is generalizing bs with
  |nil=>simp[lits]
  |cons i is ih=>
   cases bs with
   |nil=>simp at hlen
   |cons b bs=>
    simp only[gb,List.cons.injEq]at hb;simp only[bY,bD]at hw;simp only[gb,lits,ln hb.1];rw[jz (ids':=Ya) hw.1,ih (tS.1 hn).2 bs hb.2 hw.2 (by simpa using hlen) (λk i hk=>t_ (k+1) i (by simpa using hk))]
 rw[Eg (is.map λi=>ids.getD i 0)]at kl;have S1:St ms w0 (lits (is.map λi=>ids.getD i 0) (is.map λi=>ids.getD i 0) bs++au ch0 ((r.map λj=>aC ids (ids.getD j 0) (bl.getD j e_))++au rest R)) w:=by
  refine S.perm ((kl.append_right _).trans ?_);rw[kY,fe (au rest R) ch0,fe ((r.map λj=>aC ids (ids.getD j 0) (bl.getD j e_))++au rest R) ch0];exact dR λf=>by simp only[dZ];omega
 rw[cN];refine(eZ hT hQ n hg (by simpa using hlen) S1 cV).mono ?_;rintro v w' ⟨x,afT,bl0,ch',rfl,xf,S0,hK⟩;obtain⟨v2,more,bl',hv,pD,S2,rfl,hbs,c2,rfl⟩:=iP (n0:=bs.length) xf (by simp[hlen]) S0 hK;have yN:((is.map λi=>ids.getD i 0)++afT).take bs.length=is.map λi=>ids.getD i 0:=by rw[<-hlen];have:=List.take_left (l₁:=is.map λi=>ids.getD i 0) (l₂:=afT);simpa using this
 rw[yN]at hv pD S2;refine⟨by rw[hv];have:=g_ (ids:=[]) (more:=(is.map λi=>ids.getD i 0)++more) v2 Gi;simpa using this,?_⟩;have pF:bl'=bs++bl'.drop bs.length:=by have:=jH bs.length bl';rw[hbs]at this;exact this.symm
 rw[pF,fu _ _ _ _ (by simpa using hlen),Dh (ids':=is.map λi=>ids.getD i 0) (is.map λi=>ids.getD i 0) bs hw]at S2;rw[kY,fe _ ch0,fe _ c2]at S2;have S3:St ms w0 (lits (is.map λi=>ids.getD i 0) (is.map λi=>ids.getD i 0) bs++(au ch0 []++((r.map λj=>aC ids (ids.getD j 0) (bl.getD j e_))++au rest R))) w':=by
  refine S2.sub ?_;rw[bW];refine mD ?_ _;refine agk ?_ (kG _ _);exact mD (kG _ _) _
 refine S3.perm (wK ?_ (kl.symm.append_right _));rw[kY,fe (au rest R) ch0];exact dR λf=>by simp only[dZ];omega
end
def Yb {G:Type} [Bl G] {C:Ctx Empty} {f n:Nat} {ids:List Nat} {bl:List VB} {ch:List G} {R:List ao} {ms:List Nat} {w0 w:aj} (hT:∀f c,C.T f=aa c->Sound C.P C.gl f c) (hQ:nG C) (hg:C.gl=cJ) (hl:ids.length=bl.length) (S:St ms w0 (lits ids ids bl++au ch R) w)
 (is:List Nat) (hn:is.Nodup) (bs:List VB) (hb:is.map (bl[·]?)=bs.map aa) (hw:bY 0 bs=af) {args args':List V} (cN:aE ids args=aE (is.map λi=>ids.getD i 0) args') {v0:V} (Gi:da 0 v0=af)
 (cV:br C n f args' bs [] (bA bs.length λv b c=>v=v0/\b.take bs.length=bs/\∃c2,c=[]++c2)):aX C.P f (aE ids args).toArray w λv w'=>v=den [] v0/\St ms w0 (lits ids ids bl++au ch R) w':=
 aw9 (G:=Empty) (ch0:=[]) (rest:=[]) (R:=au ch R) hT hQ hl S is hn (λg i h=>by rw[hg]at h;cases h) bs hb hw cN Gi cV
structure SiD where
 h:Int
 e:Int
 o:Int
 m:Int
 mb:Sd.Label
 pt:Sd.fj
 b0:Bool
 b1:Bool
 b2:Bool
 b3:Bool
 b4:Bool
 r0:Int
 r1:Int
 r2:Int
 r3:Int
 r4:Int
 bad:Bool
def siL (x:SiD) (q:V):List V:=[.int .i64 x.h,.int .i64 x.e,.int .i64 x.o,.int .i64 x.m]++(nN x.mb++(yq x.pt++(q::([.bool x.b0,.bool x.b1,.bool x.b2,.bool x.b3,.bool x.b4]++[.int .i64 x.r0,.int .i64 x.r1,.int .i64 x.r2,.int .i64 x.r3,.int .i64 x.r4,.bool x.bad]))))
def siR:List V->Option (SiD×V)
 |.int .i64 h::.int .i64 e::.int .i64 o::.int .i64 m::.int .i64 a::.int .i64 b::.int .i64 c::.int .i64 p1::.int .i64 p2::.int .i64 p3::.int .i64 p4::.int .i64 p5::.int .i64 p6::.int .i64 p7::.int .i64 p8::.int .i64 p9::.int .i64 q1::.int .i64 q2::.int .i64 q3::q::
  .bool b0::.bool b1::.bool b2::.bool b3::.bool b4::.int .i64 r0::.int .i64 r1::.int .i64 r2::.int .i64 r3::.int .i64 r4::.bool bad::[]=>aa (⟨h,e,o,m,⟨a,b,c⟩,⟨p1,⟨p2,p3,p4,p5⟩,⟨p6,p7,p8,p9⟩,⟨q1,q2,q3⟩⟩,b0,b1,b2,b3,b4,r0,r1,r2,r3,r4,bad⟩,q)
 |_=>ae
def siR_ok {l:List V} {x:SiD} {q:V} (h:siR l=aa (x,q)):l=siL x q:=by
 unfold siR at h;split at h
 ·simp only[aW,bC]at h;obtain⟨rfl,rfl⟩:=h;rfl
 ·cases h
def sameC {G:Type}:dk G:=λargs bl ch K=>match args with
 |[.agg la,.agg lb]=>(match siR la,siR lb with
  |some (x,.eW i 0 n _ _),aa (y,.eW j 0 m _ _)=>(match bl[i]?,bl[j]?with
   |some ⟨_,_,[.iD 1 n' g,.rest _]⟩,aa ⟨_,_,[.iD 1 m' g',.rest _]⟩=>cond (!(aA i j)) ((x=y/\n'=n/\m'=n/\m=n/\n<=1000000/\g'=g/\∃q,g=ntG q)/\K (.bool af) bl ch) False
   |_,_=>False)
  |_,_=>False)
 |_=>False
def LSame:List (bK Empty):=[⟨38,af,intsC⟩]
def LSame_ok:aH prog cJ LSame:=aH.cons ⟨ints_sound,λ_=>ints_quiet⟩ aH.nil
def chain (no:Prop):List Bool->Prop->Prop
 |[],k=>k
 |b::l,k=>cond b (chain no l k) no
def chain_ok {no k:Prop} (hk:k):∀{l:List Bool},(∀b∈l,b=af)->chain no l k
 |[],_=>hk
 |b::l,h=>by
  unfold chain;rw[h b vi];exact chain_ok hk λc hc=>h c (qQ _ hc)
def labE (a b:Sd.Label):Bool:=a.mQ==b.mQ&&(a.source==b.source&&(a.seq==b.seq&&af))
def x4E (a b:Sd.X4):Bool:=a.a==b.a&&(a.b==b.b&&(a.c==b.c&&(a.d==b.d&&af)))
def ptE (a b:Sd.fj):Bool:=a.cls==b.cls&&(x4E a.bh b.bh&&(x4E a.now b.now&&(labE a.cd b.cd&&af)))
def labE_self (a:Sd.Label):labE a a=af:=by simp[labE]
def x4E_self (a:Sd.X4):x4E a a=af:=by simp[x4E]
def ptE_self (a:Sd.fj):ptE a a=af:=by simp[ptE,x4E_self,labE_self]
def siT (x:SiD):List Bool:=[x.h==x.h,x.e==x.e,x.o==x.o,x.m==x.m,labE x.mb x.mb,ptE x.pt x.pt,x.b0==x.b0&&(x.b1==x.b1&&(x.b2==x.b2&&(x.b3==x.b3&&(x.b4==x.b4&&af)))),x.r0==x.r0&&(x.r1==x.r1&&(x.r2==x.r2&&(x.r3==x.r3&&(x.r4==x.r4&&af))))]
section
variable(x:SiD) (n c c':Nat) (y y':Option aI) (q:Nat->Int) (a b:Bool) (ty Dl:BT) (u u':List ai) (K:VK Empty)
def sameX:Prop:=(n=n/\n=n/\n=n/\n<=1000000/\ntG q=ntG q/\∃q',ntG q=ntG q')/\chain (K (.bool ag) (ntsL n q a b ty Dl u u') []) (siT x) (K (.bool (x.bad==x.bad)) (ntsL n q a b ty Dl u u') [])
def same_vc:br (bM prog cJ LSame) 60 15 [.agg (siL x (.eW 0 0 n c y)),.agg (siL x (.eW 1 0 n c' y'))] (ntsL n q a b ty Dl u u') [] (bA 2 K)=sameX x n q a b ty Dl u u' K:=kR
end
def same_ok {x:SiD} {n:Nat} {q:Nat->Int} {a b:Bool} {ty Dl:BT} {u u':List ai} {K:VK Empty} (hn:n<=1000000) (hK:K (.bool af) (ntsL n q a b ty Dl u u') []):sameX x n q a b ty Dl u u' K:=by
 refine⟨⟨rfl,rfl,rfl,hn,rfl,q,rfl⟩,chain_ok ?_ ?_⟩
 ·have:(x.bad==x.bad)=af:=sP;rw[this];exact hK
 ·intro t ht;simp only[siT,cF,qS,or_false]at ht;rcases ht with rfl|rfl|rfl|rfl|rfl|rfl|rfl|rfl<;>simp[labE_self,ptE_self]
def same_sound {G:Type} [Bl G] {gl:Nat->Option Nat}:Sound (G:=G) prog gl 15 sameC:=by
 intro args ids bl ch R ms w0 w K hg hl S hc;unfold sameC at hc;split at hc
 ·rename_i la lb;split at hc
  ·rename_i x i n c o y j m c' o' hx hy;split at hc
   ·rename_i a ty n' g u b Dl m' g' u' hi hj;cases hq:!(aA i j)with
    |false=>rw[hq]at hc;exact hc.elim
    |true=>
     rw[hq]at hc;obtain⟨⟨rfl,rfl,rfl,rfl,hn,rfl,q,rfl⟩,hK⟩:=hc;obtain rfl:=siR_ok hx;obtain rfl:=siR_ok hy;have ua:i≠j:=λe=>by rw[e,tW]at hq;cases hq
     have cV:br (bM prog cJ LSame) 60 15 [.agg (siL x (.eW 0 0 m c o)),.agg (siL x (.eW 1 0 m c' o'))] (ntsL m q a b ty Dl u u') [] (bA (ntsL m q a b ty Dl u u').length λv bl c=>v=.bool af/\bl.take (ntsL m q a b ty Dl u u').length=ntsL m q a b ty Dl u u'/\∃c2,c=[]++c2):=by
      show br (bM prog cJ LSame) 60 15 _ _ _ (bA 2 _);rw[same_vc];exact same_ok hn ⟨rfl,rfl,[],rfl⟩
     have hp:=Yb (C:=bM prog cJ LSame) LSame_ok.T LSame_ok.Q rfl hl S [i,j] (by simp[ua]) (ntsL m q a b ty Dl u u') (by simp[hi,hj,ntsL]) rfl (args:=[.agg (siL x (.eW i 0 m c o)),.agg (siL x (.eW j 0 m c' o'))]) ?_ rfl cV
     ·refine hp.mono ?_;rintro v w' ⟨rfl,S2⟩;exact⟨.bool af,[],bl,ch,rfl,by simpa using hl,by simpa using S2,hK⟩
     ·simp only[siL,nN,yq,aE,den,ak,cl,fm,fQ];rfl
   ·exact hc.elim
  ·exact hc.elim
 ·exact hc.elim
def same_quiet {G:Type}:jo (sameC (G:=G)):=by
 intro args bl ch K hc;unfold sameC at hc⊢;split at hc
 ·split at hc
  ·rename_i x i n c o y j m c' o' hx hy;split at hc
   ·cases hq:!(aA i j)with
    |false=>rw[hq]at hc;exact hc.elim
    |true=>rw[hq]at hc;exact⟨hc.1,hc.2,[],sP⟩
   ·exact hc.elim
  ·exact hc.elim
 ·exact hc.elim
def Ka:dk (LG fr):=λargs bl ch K=>match args,ch with
 |[.ptr ic 0],.bj u::.core g fB::rest=>(match bl[ic]?with
  |some ⟨af,⟨131,(0,0)⟩,cc⟩=>(match CM cc with
   |some x=>(match bl[x.it]?with
    |some ⟨af,⟨181,(0,0)⟩,tc⟩=>(match tI tc with
     |some y=>cond (bY bl.length bl&&(db 1 ic&&(db 1 x.it&&!(aA ic x.it))))
      ((bl[0]?=aa (b_ g.d.k)/\bl[1]?=aa (gK g.d.k)/\x=mX g.d.k x.it (gj x y g.d g.dx g.sx)/\y.b=x.p.cO/\y.m=x.p.iM/\x.p.queue=g.d.k.most)/\
        ∀(z:Option aI) (c ty:Nat) (us:List ai),K (iA bl.length (.agg (qx (gj x y g.d g.dx g.sx) (.eW 0 0 g.d.q.length c z)))) (bl++[lx ty 1 g.d.q.length (pJ g.d.q) us]) (.bj u::.core g fB::rest)) False
     |none=>False)
    |_=>False)
   |none=>False)
  |_=>False)
 |_,_=>False
def afU {bl:List VB} {i:Nat} {b:VB} (h:bl[i]?=aa b):bl.set i b=bl:=by
 apply zv;intro j;rw[List.getElem?_set];split
 ·rename_i hj;subst hj;rw[h];simp[lT h]
 ·rfl
def aw_ (ht:Body (fr:=fr) 124 dt):Sound prog gS 37 (Ka (fr:=fr)):=by
 intro args ids bl ch R ms w0 w K hg hl S hc;have key:yS (λ_=>WH) args bl ch λv b c=>∃ex,b=bl++ex/\(∀Y,au c Y=au ch Y)/\K v (bl++ex) ch:=by
  unfold Ka at hc;unfold yS;split at hc
  ·rename_i ic u g fB rest;split at hc
   ·rename_i cc vE;try simp only[vE]
    split at hc
    ·rename_i x hx;try simp only[hx]
     split at hc
     ·rename_i tc pE;try simp only[pE]
      split at hc
      ·rename_i y hy;try simp only[hy]
       cases hq:bY bl.length bl&&(db 1 ic&&(db 1 x.it&&!(aA ic x.it)))with
       |false=>rw[hq]at hc;exact hc.elim
       |true=>
        rw[hq]at hc;obtain⟨⟨e3,e4,e5,e6,e7,e8⟩,hK⟩:=hc;simp only[bu,Bool.true_and,cond_true];refine⟨⟨e3,e4,e5,e6,e7,e8⟩,λz c ty us=>?_⟩;have jM:bl[ic]?=aa (fy g.d.k x.it (gj x y g.d g.dx g.sx)):=by
         rw[vE,IH hx];congr 1;unfold fy;rw[<-e5]
        have hJ:bl[x.it]?=aa (fg (gj x y g.d g.dx g.sx)):=by
         rw[pE,yy hy];congr 1;unfold fg;have:y=v3 (gj x y g.d g.dx g.sx):=by
          obtain⟨y1,y2,y3,y4,y5,y6,y7,y8⟩:=y;simp only at e6 e7;subst e6 e7;rfl
         rw[<-this]
        have hs:iV bl ic x.it g.d.k (gj x y g.d g.dx g.sx)=bl:=by
         unfold iV;rw[afU jM,afU hJ]
        exact⟨_,congrArg (·++_) hs,λY=>rfl,hK z c ty us⟩
      ·exact hc.elim
     ·exact hc.elim
    ·exact hc.elim
   ·exact hc.elim
  ·exact hc.elim
 refine(aev (atE ht) args ids bl ch R ms w0 w _ hg hl S key).mono ?_;rintro v w' ⟨x,more,bl',ch',hv,h1,S',ex,rfl,hn,hK⟩;exact⟨x,more,_,ch,hv,h1,by rw[hn]at S';exact S',hK⟩
def axa:jo (Ka (fr:=fr)):=by
 intro args bl ch K hc;unfold Ka at hc⊢;split at hc
 ·split at hc
  ·split at hc
   ·split at hc
    ·split at hc
     ·rename_i y hy;revert hc;cases bY bl.length bl&&_ with
      |false=>exact λh=>h.elim
      |true=>exact λhc=>⟨hc.1,λz c ty us=>⟨hc.2 z c ty us,_,rfl⟩⟩
     ·exact hc.elim
    ·exact hc.elim
   ·exact hc.elim
  ·exact hc.elim
 ·exact hc.elim
end
section
open Go Go.RowKit Go.BigFrame Sx Vx
variable{fr:Sd.aO->Nat×Sd.ax}
def Kc:MM fr:=λar m rest Kb=>match ar with
 |[]=>m.s.c.p.queue=m.k.most/\∀(z:Option aI) (c ty:Nat) (us:List ai),Kb (.agg (qx m.s (.eW 0 0 m.s.c.q.length c z))) m [lx ty 1 m.s.c.q.length (pJ m.s.c.q) us]
 |_=>False
def Pw (fr:Sd.aO->Nat×Sd.ax):List (bK (LG fr)):=[⟨37,af,Ka⟩]
def axf (ht:Body (fr:=fr) 124 dt):aH prog gS (Pw fr):=aH.cons ⟨aw_ ht,λ_=>axa⟩ aH.nil
section
variable(u:aj) (k:LK) (s:Sd.ah) (F:ba fr (a9 k s)) (fB:List ao) (G:dQ) (K:VK (LG fr))
def axg:br (bM prog gS (Pw fr)) 60 14 [.ptr 4 0] (iz k s G) [.bj u,.core (a_ k s F) fB] (bA 5 K)=(OC k s/\∀(z:Option aI) (c ty:Nat) (us:List ai),K (.agg (qx (bO s) (.eW 5 0 s.c.q.length c z))) (iz k s G++[lx ty 1 s.c.q.length (pJ s.c.q) us]) [.bj u,.core (a_ k s F) fB]):=kR
end
def axj:jo (F5 (Kc (fr:=fr))):=by
 intro args bl ch K hc;unfold F5 at hc⊢;split at hc
 ·split at hc
  ·rename_i p m q hm;revert hc;cases bY bl.length bl with
   |false=>exact λh=>h.elim
   |true=>
    intro hc;refine⟨hc.1,?_⟩;have h2:=hc.2;unfold Kc at h2⊢;split at h2
    ·exact⟨h2.1,λz c ty us=>⟨h2.2 z c ty us,_,rfl⟩⟩
    ·exact h2.elim
  ·exact hc.elim
 ·exact hc.elim
def axk (ht:Body (fr:=fr) 124 dt):Xo 14 (Kc (fr:=fr)):=by
 intro u ids ar m rest Kb im R ms w0 w hM S;unfold Kc at hM;split at hM
 ·have hg:Gl gS (ng m im):=by
   intro g i di;unfold gS at di;split at di
   ·obtain rfl:=cG di;exact⟨by simp[ng],rfl⟩
   ·obtain rfl:=cG di;exact⟨by simp[ng],rfl⟩
   ·cases di
  let K:VK (LG fr):=λv b c=>∃(z:Option aI) (cc ty:Nat) (us:List ai),v=.agg (qx m.s (.eW 5 0 m.s.c.q.length cc z))/\b=iz m.k m.s m.G++[lx ty 1 m.s.c.q.length (pJ m.s.c.q) us]/\c=[.bj u,.core (a_ m.k m.s m.F) m.fB]
  have cV:br (bM prog gS (Pw fr)) 60 14 [.ptr 4 0] (iz m.k m.s m.G) [.bj u,.core (a_ m.k m.s m.F) m.fB] (bA 5 K):=by
   rw[axg];exact⟨⟨rfl,rfl,by rw[nT],rfl,rfl,hM.1⟩,λz cc ty us=>⟨z,cc,ty,us,by rw[nT],rfl,rfl⟩⟩
  have cN:(.pointer (aa ⟨im,0,ae⟩)::aE ids []).toArray=(aE (ng m im) [.ptr 4 0]).toArray:=rfl;rw[cN];have hok:=axf (fr:=fr) ht;refine(eZ hok.T hok.Q 60 (C:=bM prog gS (Pw fr)) (ids:=ng m im) (bl:=iz m.k m.s m.G) (ch:=[.bj u,.core (a_ m.k m.s m.F) m.fB]) (R:=m.G.B++au rest R) hg rfl (S.perm (by
   show mE _ (m.wA im++(cw u++((m.F.B++m.fB)++(m.G.B++au rest R))));exact dR λf=>by simp only[dZ];omega)) cV).mono ?_
  rintro v w' ⟨x,more,bl',ch',rfl,h1,S',hK⟩;obtain⟨v2,cn,bl2,hv,cX,S2,z,cc,ty,us,rfl,rfl,rfl⟩:=iP (n0:=5) h1 (by simp[ng]) S' hK;have yN:(ng m im++more).take 5=ng m im:=rfl;rw[yN]at hv cX S2
  match cn,cX with
  |[y],_=>
   refine⟨_,m,_,[y],rfl,?_,rfl,hM.2 z cc ty us,?_⟩
   ·rw[hv];have g5:(ng m im++[y]).getD 5 0=y:=rfl;have g0:([y]:List Nat).getD 0 0=y:=rfl;simp only[qx,nN,yq,den,ak,cl,cT,fm,fQ,g5,g0]
   ·have e1:lits (ng m im++[y]) (ng m im++[y]) (iz m.k m.s m.G++[lx ty 1 m.s.c.q.length (pJ m.s.c.q) us])=m.wA im++lits [y] [y] [lx ty 1 m.s.c.q.length (pJ m.s.c.q) us]:=by
     rw[fu _ _ _ _ rfl,fw (ids:=ng m im) (more:=[y]) (ng m im) (iz m.k m.s m.G) rfl,Dh (ids':=[y]) [y] _ rfl];rfl
    rw[e1]at S2;refine S2.perm ?_;show mE (_++(cw u++((m.F.B++m.fB)++(m.G.B++au rest R)))) _;exact dR λf=>by simp only[dZ];omega
  |[],h=>simp[ng,iz]at h
  |_::_::_,h=>simp[ng,iz]at h
 ·exact hM.elim
structure vd (u:aj) (es:Nat->fK) (n:Nat) where
 j:Nat
 hj:j<=dp 60 n
 fq:Nat->fK
 bs:List j_
 ok:Ge u es fq j bs
 x:Option aI
 c:Nat
 bk:List ao
 h:dD 10 38 ((bo j).flatMap (jF fq)) x j c bk
def vd.r {u:aj} {es:Nat->fK} {n:Nat} (y:vd u es n):bx:=⟨38,10,(bo y.j).flatMap (jF y.fq),y.x,y.j,y.c,y.bk,y.h⟩
section
variable(u:aj) (es:Nat->fK) (ty:BT) (o n c:Nat) (a:Option aI) (pre post:List ai)
def Ye (y:vd u es n):List V:=[.eW 0 o n c a,y.r.v,.int .i64 y.j]
def Yf (y:vd u es n):List VB:=[mB ty n es pre post]
def Yg (y:vd u es n):List (LG fr):=[.bj u,.jr y.bs,.row y.r]
def Yh:Lp (LG fr):=Ah (X:=vd u es n) (λy=>n-y.j) 36 1 [0,3,4] (Ye u es o n c a) (Yf u es ty n pre post) (Yg u es n) (λ_=>rfl) (λ_=>rfl) (λ_=>rfl)
variable(K:VK (LG fr))
def afW (y:vd u es n):Prop:=
 let e:=es (y.j:Int).toNat
 let m:Int:=if(120:Int)<(e.n:Int)then 120 else(e.n:Int)
 (0<=(y.j:Int)/\(y.j:Int)<(n:Int))/\(o=pre.length/\(y.j:Int).toNat<n/\∀i,(jF es i).length=10)/\(0<=m/\m<=(e.c:Int))/\(jc u e.x m.toNat e.c (dB u e.x)/\m.toNat<=1000000)/\∀b:j_,b.n=m.toNat->b.f=dB u e.x->
  (y.r.v=y.r.v/\y.j+1<=1000000)/\∀(x:Option aI) (c':Nat) (bk:List ao) (h:dD 10 38 (y.r.os++ak [] (dv e.kind e.src (.slice b.x b.n b.c) e.s e.bad)) x (y.j+1) c' bk),
   af=af/\xI (λy=>n-y.j) (Ye u es o n c a) (Yf u es ty n pre post) (Yg (fr:=fr) u es n) y [.eW 0 o n c a,.raw (.slice x (y.j+1) c'),.int .i64 (i64.wrap ((y.j:Int)+1))] [mB ty n es pre post] [.bj u,.jr (y.bs++[b]),.row ⟨38,10,y.r.os++ak [] (dv e.kind e.src (.slice b.x b.n b.c) e.s e.bad),x,y.j+1,c',bk,h⟩]
def Yi:Prop:=∀r:bx,r.T=38->r.z=9+1->r.os=[]->r.n=0->
 (af=af/\xH (Ye u es o n c a) (Yf u es ty n pre post) (Yg (fr:=fr) u es n) [.eW 0 o n c a,r.v,.int .i64 0] [mB ty n es pre post] [.bj u,.jr [],.row r])/\
 ∀(y:vd u es n) (g:Nat->ai),cond (decide ((y.j:Int)<(n:Int))) (cond (decide ((y.j:Int)<60)) (afW u es ty o n c a pre post y (fr:=fr)) (K y.r.v [mB ty n es pre post] [.bj u,.jr y.bs,.row y.r])) (K y.r.v [mB ty n es pre post] [.bj u,.jr y.bs,.row y.r])
def few_25:br (Gd prog cJ ([]:List (bK (LG fr))) Ph XK (λi _=>ph 0 (Yh (fr:=fr) u es ty o n c a pre post) i)) 60 12 [.eW 0 o n c a] [mB ty n es pre post] [.bj u,.jr []] (bA 1 K)=Yi u es ty o n c a pre post K:=kR
end
def axm {T z n c:Nat} {os os':List ai} {x:Option aI} {bk:List ao} (e:os=os') (h:dD z T os x n c bk):(⟨T,z,os,x,n,c,bk,h⟩:bx)=⟨T,z,os',x,n,c,bk,e▸h⟩:=by subst e;rfl
def axn {ms:List Nat} {w0 w:aj} {z T n c:Nat} {olds:List ai} {x:Option aI} {B R:List ao} {g:Nat->List ai} {o:Obj} {z0:Nat} (h:dD z T olds x n c B) (S:St ms w0 (B++R) w) {tg:aM} {cs:List ai} (ho:o=.cells cs.toArray tg (0,0)) (kp:(⟨z0,ag,o⟩:ao)∈R) (hg:olds=(bo n).flatMap g):
 ∃(i ty:Nat) (us:List ai),wN x n c=.slice (bif aA n 0 then x else aa ⟨i,0,ae⟩) n c/\St ms w0 (⟨i,ag,.cells ((bo n).flatMap g++us).toArray ty (0,0)⟩::R) w:=by
 subst ho;rcases h.2.2 with⟨rfl,rfl,rfl,rfl⟩|⟨b,tail,rfl,rfl,_⟩
 ·exact⟨z0,tg,cs,rfl,by simpa using S.dup kp rfl⟩
 ·refine⟨b,T,tail,?_,?_⟩
  ·cases aA n 0<;>rfl
  ·rw[<-hg];exact S.mq
section
variable{u:aj} {es:Nat->fK} {ty:BT} {o n c:Nat} {a:Option aI} {pre post:List ai} {K:VK (LG fr)}
def axo (ho:∀j,j<n->o=pre.length) (zj:∀j,j<n->jc u (es j).x (es j).n (es j).c (dB u (es j).x)) (hK:∀y:vd u es n,y.j=dp 60 n->K y.r.v [mB ty n es pre post] [.bj u,.jr y.bs,.row y.r]):Yi u es ty o n c a pre post K:=by
 rintro⟨T,z,os,x,nn,c0,bk,h⟩ hT hz CJ Ea;simp only at hT hz CJ Ea;subst hT hz CJ Ea;refine⟨⟨rfl,⟨0,oQ _,λ_=>⟨0,0,ae,0,0,⟨ag,⟨0,0,0,0⟩,ag⟩,ag⟩,[],⟨rfl,λj hj=>absurd hj (Nat.not_lt_zero _)⟩,x,c0,bk,h⟩,rfl,rfl,rfl⟩,?_⟩;intro y g;have AY:=y.hj;refine aJ (λe1=>aJ (λe2=>?_) (λe2=>hK y ?_)) (λe1=>hK y ?_)
 ·have h1:y.j<n:=by simpa using e1
  have h2:y.j<60:=by have:((y.j:Nat):Int)<60:=by simpa using e2
                     omega
  have hk:=zj y.j h1;have hle:dp 120 (es y.j).n<=(es y.j).n/\dp 120 (es y.j).n<=120:=by unfold dp;omega
  have hkc:=hk.1;unfold afW;simp only[vn];rw[show(if(120:Int)<(((es y.j).n:Nat):Int)then 120 else(((es y.j).n:Nat):Int))=((dp 120 (es y.j).n:Nat):Int)from Zm 120 _,vn];refine⟨⟨oM,oM⟩,⟨ho _ h1,h1,λi=>rfl⟩,⟨oM,oM⟩,⟨(hk.cut hle.1 oM).2,oM⟩,λb jM hJ=>⟨⟨trivial,oM⟩,λx c' bk h=>⟨trivial,?_⟩⟩⟩
  let Ke:Nat->fK:=λi=>if i=y.j then(es y.j).cp b else y.fq i
  have CJ:y.r.os++ak [] (dv (es y.j).kind (es y.j).src (.slice b.x b.n b.c) (es y.j).s (es y.j).bad)=(bo (y.j+1)).flatMap (jF Ke):=by
   rw[List.range_succ,Bi];congr 1
   ·show(bo y.j).flatMap (jF y.fq)=_;simp only[KJ];congr 1;apply ni;intro i hi;have hi:=List.mem_range.1 hi;have:Ke i=y.fq i:=if_neg oM;unfold jF;rw[this]
   ·have:Ke y.j=(es y.j).cp b:=if_pos rfl;rw[List.flatMap_cons,List.flatMap_nil,cT];unfold jF;rw[this];rfl
  have hF:Ge u es Ke (y.j+1) (y.bs++[b]):=by
   refine⟨by rw[fL,y.ok.len];rfl,λi hi=>?_⟩;by_cases ua:i=y.j
   ·subst ua;refine⟨b,?_,if_pos rfl,jM,hJ⟩;rw[vg (by rw[y.ok.len];exact cY _),y.ok.len];simp
   ·obtain⟨b',q1,q2,q3,q4⟩:=y.ok.each i oM;refine⟨b',?_,?_,q3,q4⟩
    ·rw[gm (by rw[y.ok.len];omega)];exact q1
    ·rw[<-q2];exact if_neg ua
  refine⟨⟨y.j+1,by unfold dp at AY⊢;omega,Ke,y.bs++[b],hF,x,c',bk,CJ▸h⟩,by show n-(y.j+1)<n-y.j;omega,?_,rfl,?_⟩
  ·rw[pH oM];rfl
  ·show[LG.bj u,.jr (y.bs++[b]),.row _]=[LG.bj u,.jr (y.bs++[b]),.row _];rw[axm CJ h];rfl
 ·have h1:¬y.j<60:=by
   have:¬((y.j:Nat):Int)<60:=by simpa using e2
   omega
  unfold dp at AY⊢;omega
 ·have h1:¬y.j<n:=by simpa using e1
  unfold dp at AY⊢;omega
end
def CFw (fr:Sd.aO->Nat×Sd.ax) (P:aG) (u:aj) (es:Nat->fK) (ty:BT) (o n c:Nat) (a:Option aI) (pre post:List ai) (f:Nat) (K:VK (LG fr)):Prop:=br (Gd prog cJ ([]:List (bK (LG fr))) Ph XK (λi _=>ph 0 (Yh (fr:=fr) u es ty o n c a pre post) i)) 60 f [.eW 0 o n c a] [mB ty n es pre post] [.bj u,.jr []] (bA 1 K)
def axp {f:Nat} (hw:∀(u:aj) (es:Nat->fK) (ty:BT) (o n c:Nat) (a:Option aI) (pre post:List ai) (K:VK (LG fr)),CFw fr prog u es ty o n c a pre post f K=Yi u es ty o n c a pre post K):Sound prog gS f (Pj (fr:=fr)):=by
 intro args ids bl ch R ms w0 w K hg hl S hc;unfold Pj at hc;split at hc
 ·rename_i i o n c a u rest;split at hc
  ·rename_i ty pre n' g post hb;cases hq:bY bl.length bl with
   |false=>rw[hq]at hc;exact hc.elim
   |true=>
    rw[hq]at hc;obtain⟨es,⟨rfl,rfl,ho,hle,⟨tg,kp⟩,zj⟩,hK⟩:=hc;have m1:=FZ (ids:=ids) ids bl hl i _ hb;have m0:=FZ (ids:=ids) ids bl hl 0 _ kp;generalize GH:ids.getD i 0=bi at m1;have eB:aC ids bi ⟨ag,ty,[.rest pre,.iD 10 n' (jF es),.rest post]⟩=aC [bi] bi (mB ty n' es pre post):=jz (b:=mB ty n' es pre post) rfl;rw[eB]at m1;have S1:St ms w0 (lits [bi] [bi] [mB ty n' es pre post]++au [LG.bj (fr:=fr) u,.jr []] (lits ids ids bl++au rest R)) w:=by
     refine(S.dup (pS _ m1) rfl).perm ?_;show mE (_::(lits ids ids bl++(cw u++au rest R))) ([_]++(cw u++([]++(lits ids ids bl++au rest R))));exact dR λf=>by simp only[dZ,j5,oc];omega
    have cV:CFw fr prog u es ty o n' c a pre post f (λv b ch=>∃y:vd u es n',y.j=dp 60 n'/\v=y.r.v/\b=[mB ty n' es pre post]/\ch=[.bj u,.jr y.bs,.row y.r]):=by
     rw[hw];exact axo ho zj λy hy=>⟨y,hy,rfl,rfl,rfl⟩
    have cN:aE ids [.eW i o n' c a]=aE [bi] [.eW 0 o n' c a]:=by
     simp only[aE,den,GH];rfl
    rw[cN];have hok:=aH.nil (G:=LG fr) (P:=prog) (gl:=cJ);refine(eZ (C:=Gd prog cJ ([]:List (bK (LG fr))) Ph XK (λi _=>ph 0 (Yh (fr:=fr) u es ty o n' c a pre post) i)) hok.T hok.Q 60 (λg i h=>by cases h) rfl S1 cV).mono ?_;rintro v w' ⟨x,more,bl',ch',rfl,h1,S',uG⟩;obtain⟨v2,cn,bl2,hv,cX,S2,y,hy,rfl,rfl,rfl⟩:=iP (n0:=1) h1 sP S' uG;obtain rfl:cn=[]:=lz (by simpa using cX);have yN:([bi]++more).take 1=[bi]:=rfl;rw[yN,cT]at S2;rw[yN]at hv;have S3:St ms w0 (y.bk++(lits ids ids bl++(cw u++(ox y.bs++au rest R)))) w':=by
     have S4:St ms w0 ([aC [bi] bi (mB ty n' es pre post)]++(cw u++(ox y.bs++(y.bk++(lits ids ids bl++au rest R))))) w':=S2;refine(S4.sub (kG _ _)).perm ?_;exact dR λf=>by simp only[dZ];omega
    have hj:=y.hj;obtain⟨i1,t1,u1,q1,S5⟩:=axn (g:=jF y.fq) y.h S3 (z0:=ids.getD 0 0) (tg:=tg) (cs:=ak ids (wD tg).c) rfl (by simp only[eI];exact .inl m0) rfl;have hfw:=hK y.fq y.bs y.x y.c t1 u1 (by rw[<-hy];exact y.ok);refine⟨_,[i1],_,_,?_,by simp[hl],?_,hfw⟩
    ·rw[hv];have e1:(ids++[i1]).getD bl.length 0=i1:=by rw[<-hl];simp[gd]
     simp only[vd.r,bx.v,den,e1,<-hy];exact q1
    ·have e2:lits (ids++[i1]) [i1] [lx t1 10 (dp 60 n') (jF y.fq) u1]=[⟨i1,ag,.cells ((bo y.j).flatMap (jF y.fq)++u1).toArray t1 (0,0)⟩]:=by
      simp only[lits,aC,Jw,hy];rfl
     rw[fu _ _ _ _ hl,fw _ _ (by rw[hl];exact hq),e2];refine S5.perm ?_;show mE _ ((lits ids ids bl++[_])++(cw u++(ox y.bs++au rest R)));exact dR λf=>by simp only[dZ,j5,oc];omega
  ·exact hc.elim
 ·exact hc.elim
def few_25S:Sound prog gS 12 (Pj (fr:=fr)):=axp λu es ty o n c a pre post K=>few_25 u es ty o n c a pre post K
end
section
open Go Go.RowKit Go.BigFrame Sx Vx
def oN (wr:Bool) (a b c d:ai) (e:Int):VB:=⟨wr,⟨90,(0,0)⟩,[.raw a,.int .i64 e,.raw b,.raw c,.raw d]⟩
def Kf {G:Type}:dk G:=λargs bl ch K=>match args with
 |[.ptr i 0]=>(match bl[i]?with
  |some ⟨wr,⟨90,(0,0)⟩,[.raw a,.int .i64 e,.raw b,.raw c,.raw d]⟩=>K (.int .i64 e) bl ch
  |_=>False)
 |_=>False
noncomputable def Kg:V:=.agg (match me prog 55 with|some z=>z|none=>[])
def Kh {G:Type}:dk G:=λargs bl ch K=>match args with
 |[.ptr i 0]=>(match bl[i]?with
  |some ⟨wr,⟨90,(0,0)⟩,[.raw (.pointer ae),.int .i64 e,.raw b,.raw c,.raw d]⟩=>K Kg bl ch
  |_=>False)
 |_=>False
def axr (wr:Bool) (a b c d:ai) (e:Int) (K:VK Empty):br (bM prog cJ []) 60 20 [.ptr 0 0] [oN wr a b c d e] [] (bA 1 K)=K (.int .i64 e) [oN wr a b c d e] []:=kR
def axs (wr:Bool) (b c d:ai) (e:Int) (K:VK Empty):br (bM prog cJ []) 60 14 [.ptr 0 0] [oN wr (.pointer ae) b c d e] [] (bA 1 K)=K Kg [oN wr (.pointer ae) b c d e] []:=kR
def axt {G:Type} [Bl G] {gl:Nat->Option Nat}:Sound (G:=G) prog gl 20 Kf:=by
 intro args ids bl ch R ms w0 w K hg hl S hc;unfold Kf at hc;split at hc
 ·rename_i i;split at hc
  ·rename_i wr a e b c d hb;have cV:br (bM prog cJ ([]:List (bK Empty))) 60 20 [.ptr 0 0] [oN wr a b c d e] [] (bA ([oN wr a b c d e].length) λv bl' c'=>v=.int .i64 e/\bl'.take ([oN wr a b c d e].length)=[oN wr a b c d e]/\∃c2,c'=[]++c2):=by
    show br _ 60 _ _ _ _ (bA 1 _);rw[axr];exact⟨rfl,rfl,[],rfl⟩
   have hok:=aH.nil (G:=Empty) (P:=prog) (gl:=cJ);refine(Yb (C:=bM prog cJ ([]:List (bK Empty))) hok.T hok.Q rfl hl S [i] sP [oN wr a b c d e] (by simp[hb,oN]) rfl (args:=[.ptr i 0]) (by simp only[aE,den];rfl) rfl cV).mono ?_;rintro v w' ⟨rfl,S2⟩;exact⟨.int .i64 e,[],bl,ch,by simp only[den],by simpa using hl,by simpa using S2,hc⟩
  ·exact hc.elim
 ·exact hc.elim
def axu {G:Type} [Bl G] {gl:Nat->Option Nat}:Sound (G:=G) prog gl 14 Kh:=by
 intro args ids bl ch R ms w0 w K hg hl S hc;unfold Kh at hc;split at hc
 ·rename_i i;split at hc
  ·rename_i wr e b c d hb;have cV:br (bM prog cJ ([]:List (bK Empty))) 60 14 [.ptr 0 0] [oN wr (.pointer ae) b c d e] [] (bA ([oN wr (.pointer ae) b c d e].length) λv bl' c'=>v=Kg/\bl'.take ([oN wr (.pointer ae) b c d e].length)=[oN wr (.pointer ae) b c d e]/\∃c2,c'=[]++c2):=by
    show br _ 60 _ _ _ _ (bA 1 _);rw[axs];exact⟨rfl,rfl,[],rfl⟩
   have hok:=aH.nil (G:=Empty) (P:=prog) (gl:=cJ);refine(Yb (C:=bM prog cJ ([]:List (bK Empty))) hok.T hok.Q rfl hl S [i] sP [oN wr (.pointer ae) b c d e] (by simp[hb,oN]) rfl (args:=[.ptr i 0]) (by simp only[aE,den];rfl) kR cV).mono ?_;rintro v w' ⟨rfl,S2⟩;exact⟨Kg,[],bl,ch,by have:=g_ (ids:=[]) (more:=ids++[]) Kg kR;simpa using this.symm,by simpa using hl,by simpa using S2,hc⟩
  ·exact hc.elim
 ·exact hc.elim
def axv {G:Type}:jo (Kf (G:=G)):=by
 intro args bl ch K hc;unfold Kf at hc⊢;split at hc
 ·split at hc
  ·exact⟨hc,[],sP⟩
  ·exact hc.elim
 ·exact hc.elim
def axw {G:Type}:jo (Kh (G:=G)):=by
 intro args bl ch K hc;unfold Kh at hc⊢;split at hc
 ·split at hc
  ·exact⟨hc,[],sP⟩
  ·exact hc.elim
 ·exact hc.elim
def Px (G:Type) [Bl G]:List (bK G):=[⟨20,af,Kf⟩,⟨14,af,Kh⟩]
def axx {G:Type} [Bl G] {gl:Nat->Option Nat}:aH prog gl (Px G):=aH.cons ⟨axt,λ_=>axv⟩ (aH.cons ⟨axu,λ_=>axw⟩ aH.nil)
def Pz {G:Type}:dk G:=λargs bl ch K=>match args with
 |[]=>K (.bool af) bl ch
 |_=>False
def axz {f:Nat} {C:Ctx Empty} (hP:C.P=prog) (hT:∀f c,C.T f=aa c->Sound C.P C.gl f c) (hQ:nG C) (hg:C.gl=cJ) (h:∀K:VK Empty,K (.bool af) [] []->br C 60 f [] [] [] (bA 0 K)) {G:Type} [Bl G] {gl:Nat->Option Nat}:Sound (G:=G) prog gl f Pz:=by
 intro args ids bl ch R ms w0 w K F6 hl S hc;unfold Pz at hc;split at hc
 ·have:=Yb (C:=C) (f:=f) (args:=[]) (args':=[]) (v0:=.bool af) hT hQ hg hl S [] sP [] rfl rfl rfl rfl (h _ ⟨rfl,rfl,[],rfl⟩);rw[hP]at this;refine this.mono ?_;rintro v w' ⟨rfl,S2⟩;exact⟨.bool af,[],bl,ch,by simp only[den],by simpa using hl,by simpa using S2,hc⟩
 ·exact hc.elim
def shn_25 {G:Type} [Bl G] {gl:Nat->Option Nat}:Sound (G:=G) prog gl 9 Pz:=by
 refine axz (C:=gy prog cJ (Px Empty) (Ca prog) Ez) rfl (axx (gl:=cJ)).T (axx (gl:=cJ)).Q rfl λK hK=>?_;have e:br (gy prog cJ (Px Empty) (Ca prog) Ez) 60 9 [] [] [] (bA 0 K)=K (.bool af) [] []:=kR;rw[e];exact hK
variable{fr:Sd.aO->Nat×Sd.ax}
def Gk (l:List V):VB:=⟨af,⟨28,(0,0)⟩,l⟩
def PA (x:n5) (f:Nat->Nat×Sd.ax):VB:=Gk [.dO ⟨x.q,f⟩ x.ka x.kn x.kc]
def afX (x:n5) (u:aj) (n d:Nat->Nat):List VB:=[gL (n 0) (d 0) (lZ (x.kn 0) (dB u (x.ka 0))),gL (n 1) (d 1) (lZ (x.kn 1) (dB u (x.ka 1))),gL (n 2) (d 2) (lZ (x.kn 2) (dB u (x.ka 2))),gL (n 3) (d 3) (lZ (x.kn 3) (dB u (x.ka 3)))]
def A7 (k:LK) (p2:Sd.aU) (F:ba fr (a9 k (mA p2))) (ic it:Nat) (a:Nat->Nat):eT fr:=⟨k,bO (mA p2),F,[],.new a,ic,it⟩
def mkP (bl:List VB) (k:LK) (p2:Sd.aU) (it:Nat):Prop:=bl=bl/\mX k it (mA p2)=mX k it (bO (mA p2))/\p2.cO=p2.cO/\p2.iM=p2.iM
def axC (bl:List VB) (b:VB):Prop:=∃e,bl++[b]=bl++e
section
variable(C:Sd.aL) (tg tc:aM) (ty:BT) (u:aj) (x:n5) (f:Nat->Nat×Sd.ax) (o n c:Nat) (a:Option aI) (es:Nat->fK) (pre post:List ai)
end
def PC (es:Nat->fK) (n:Nat) (bs:List j_):Prop:=∀j,j<n->∃b∈bs,(es j).x=b.x/\(es j).n=b.n/\(es j).c=b.c/\b.n<=120/\By b.f/\Sd.kr (es j).s.x
def afZ (tg:aM) (u:aj) (es:Nat->fK) (o n c:Nat) (pre:List ai) (X:(fq:Nat->fK)->(bs:List j_)->Option aI->Nat->Nat->List ai->Nat->Prop):Prop:=
 ∃Gn:Nat->fK,(jF es=jF Gn/\n=n/\(∀j,j<n->o=pre.length)/\n<=c/\(∃t,aa (wD tg)=aa (wD t))/\∀j,j<n->jc u (Gn j).x (Gn j).n (Gn j).c (dB u (Gn j).x))/\
  ∀(fq:Nat->fK) (bs:List j_) (x:Option aI) (c' Dl:Nat) (us:List ai),Ge u Gn fq (dp 60 n) bs->X fq bs x c' Dl us (dp 60 n)
def Yj (tg tc:aM) (R:VB) (m:eT fr):Prop:=aa (wD tg)=aa (b_ m.k)/\aa (Gb tc)=aa (gK m.k)/\aa R=aa m.R
def Yk (C:Sd.aL) (m:eT fr) (e:fK) (rest:List (LG fr)) (X:Sd.ah->TR->eT fr->Prop):Prop:=
 oK m.k m.s m.F m.G/\Sd.kr ⟨e.s.x.a,e.s.x.b,e.s.x.c,e.s.x.d⟩/\∃eb:iE,EvB e.kind e.src (.raw (.slice e.x e.n e.c)) rest eb/\
  ∀(t:Sd.ah),t=(Sd.fG.go C b9 ⟨m.s,fP m.G⟩ (iJ e.kind e.src eb ⟨e.s.valid,⟨e.s.x.a,e.s.x.b,e.s.x.c,e.s.x.d⟩,e.s.pW⟩ e.bad)).s->∀(r:TR) (m':eT fr),A0 m m' t (Sd.fG.go C b9 ⟨m.s,fP m.G⟩ (iJ e.kind e.src eb ⟨e.s.valid,⟨e.s.x.a,e.s.x.b,e.s.x.c,e.s.x.d⟩,e.s.pW⟩ e.bad)).r r->X t r m'
def Yl (j N:Nat):Prop:=0<=(j:Int)/\(j:Int)<(N:Int)
def evP (es:Nat->fK) (j N:Nat):Prop:=(j:Int).toNat<N/\∀i,(jF es i).length=10
section
variable(C:Sd.aL) (tg tc:aM) (ty:BT) (u:aj) (x:n5) (f:Nat->Nat×Sd.ax) (o n c:Nat) (a:Option aI) (es:Nat->fK) (pre post:List ai)
variable(K:V->Prop)
end
def axJ {k:LK} {p2:Sd.aU} {F:ba fr (a9 k (mA p2))} (hC:eV k (mA p2)) (hm:k.most=p2.queue) (hp:Dk k) (v1:cj=F.vs) (v2:cj=F.vr) (ic it:Nat) (b:Nat->Nat):oK (fr:=fr) (A7 k p2 F ic it b).k (A7 k p2 F ic it b).s (A7 k p2 F ic it b).F (A7 k p2 F ic it b).G:=
 ⟨by show eV k (bO (mA p2));rw[nT];exact hC,hm.symm,hp,v1,v2,λi _ j=>⟨Int.le_refl 0,by show(0:Int)<=255;decide⟩,λi _=>oQ 36⟩
section
variable{tg tc:aM} {ty:BT} {u:aj} {x:n5} {f:Nat->Nat×Sd.ax} {o n c:Nat} {a:Option aI} {es:Nat->fK} {pre post:List ai}
end
structure Kl (u:aj) (es:Nat->fK) (o n:Nat) (pre:List ai):Prop where
 po:∀j,j<n->o=pre.length
 rd:∀j,j<n->jc u (es j).x (es j).n (es j).c (dB u (es j).x)
 x4:∀j,Sd.kr (es j).s.x
def Kl.cp {u:aj} {es fq:Nat->fK} {o n N:Nat} {pre:List ai} {bs:List j_} (h:Kl u es o n pre) (hF:Ge u es fq N bs):PC fq N bs:=by
 intro j hj;obtain⟨b,q1,q2,q3,q4⟩:=hF.each j hj;refine⟨b,sE q1,by rw[q2];rfl,by rw[q2];rfl,by rw[q2];rfl,by rw[q3];unfold dp;omega,by rw[q4];exact atH u _,by rw[q2];exact h.x4 j⟩
def Kl.few {tg:aM} {u:aj} {es:Nat->fK} {o n c:Nat} {pre:List ai} {X:(fq:Nat->fK)->(bs:List j_)->Option aI->Nat->Nat->List ai->Nat->Prop} (h:Kl u es o n pre) (hn:n<=c)
 (hX:∀fq bs x c' Dl us,Ge u es fq (dp 60 n) bs->X fq bs x c' Dl us (dp 60 n)):afZ tg u es o n c pre X:=⟨es,⟨rfl,rfl,h.po,hn,⟨tg,rfl⟩,h.rd⟩,hX⟩
def af3 {j N:Nat} (h:j<N):Yl j N:=⟨oM,oM⟩
def af4 (j:Nat):((j:Int)).toNat=j:=vn j
def af5 {tg tc:aM} {m:eT fr} {R:VB} (h1:m.k.tg=tg) (h2:m.k.tc=tc) (h3:m.R=R):Yj tg tc R m:=by
 subst h1 h2 h3;exact⟨rfl,rfl,rfl⟩
def axL {m:eT fr} {es:Nat->fK} {n j:Nat} {bs:List j_} {rest:List (LG fr)} {X:Sd.ah->TR->eT fr->Prop} (hm:oK m.k m.s m.F m.G) (he:PC es n bs) (hj:j<n) (hb:LG.jr bs∈rest)
 (hX:∀(eb:iE) (t:Sd.ah),By eb.f->(t=(Sd.fG.go (aP aY) b9 ⟨m.s,fP m.G⟩ (iJ (es j).kind (es j).src eb (es j).s (es j).bad)).s)->∀(r:TR) (m':eT fr),A0 m m' t (Sd.fG.go (aP aY) b9 ⟨m.s,fP m.G⟩ (iJ (es j).kind (es j).src eb (es j).s (es j).bad)).r r->X t r m'):Yk (aP aY) m (es j) rest X:=by
 obtain⟨b,jM,e1,e2,e3,e4,e5,e6⟩:=he j hj;refine⟨hm,e6,b.red,⟨λ_ _=>?_,.inr ⟨bs,hb,b,jM,rfl⟩,e5,ia e4 dC⟩,λt ht r m' hR=>hX b.red t e5 ht r m' hR⟩;rw[e1,e2,e3];rfl
end
end Go.Proofs.YtddcipamdggcnaaGreatDoor
