/- Part 5 of the proof. -/
import Derived.Test.YtggfpcggakghnaaGreatDoorRows
import Derived.ProofKit
import Derived.OpenShut
import Derived.FnData
import Derived.MakeChecks
import Derived.Stop.Joined
import Derived.WalkKit
import Derived.Below
import Derived.BigQuiet
import Derived.WalkSpells
import Derived.Lib.Hide
import Derived.Laws.CopyOwn
import Derived.Carry
import Derived.ChangeArms
import Derived.Deep.Slices
import Derived.Test.YtggfpcggakghnaaGreatDoorProg
import Derived.Test.YtggfpcggakghnaaGreatDoorR4
set_option linter.all false
set_option maxRecDepth 100000
set_option maxHeartbeats 4000000
open Go.Proofs.Tryz
open Go.IntKind (u8 u16 u32 u64 i64)
open Array renaming getElem?_eq_none->J3,getElem?_eq_getElem->J9,ext'->fM
open BitVec renaming toNat_ofInt->J7,ofInt->oP
open Bool renaming cond_eq_ite->agR,and_eq_true->bu
open Go renaming TypeId->aJ,Program->aL,Addr->aQ,Value->ae,World->ag,Oper->ax,Operand->bh,Exit->eE,FuncId->fL,IntKind->fq,heap_alloc_new->nT
open Go.Addr renaming add_lit->iS,add->vO
open Go.Builtin renaming append_->nU,zeroCells->oQ
open Go.Cell renaming okWide->Di
open Go.DataW renaming trod->PD
open Go.Instr renaming buildSlice->Yp
open Go.IntKind renaming wrap_u16->Kh,wrap_u64->s9,signed->uA,bits->uz,wrap_u8->yw
open Go.MemPlace renaming row->Yz
open Go.Proofs.YtggfpcggakghnaaGreatDoor.Rows renaming laid_sidestick_sha_roots->Yy
open Go.Sem renaming run_bind->bE
open Go.Src renaming ofSlice->sW
open Go.Value renaming okWide->AS,bool->Dc,int->eA
open Int renaming natCast_nonneg->AL,reduceEq->AT,emod_eq_of_lt->J6,ofNat->db,fdiv->jx,fdiv_eq_ediv_of_nonneg->uB
open List renaming getElem?_append_right->AF,getElem?_of_mem->AG,countP_cons->AP,countP_nil->AR,range_succ->Dd,mem_cons_self->De,flatMap_append->FH,getElem?_drop->FI,length_range->Ka,getElem?_take->PC,getElem?_take_of_lt->Yt,foldl_nil->Yx,append_assoc->bU,range->bw,append_nil->cH,mem_cons->cn,map_cons->eF,cons_append->fe,nil_append->fi,length_append->ft,length_cons->h_,mem_singleton->iH,countP_append->iI,getElem?_append_left->iq,getD->ir,getElem?_toArray->jQ,take_append_drop->jS,perm_middle->jU,getElem?_eq_none->jc,getElem?_map->jt,getElem?_eq_getElem->jv,mem_map->lP,map_map->lQ,sublist_append_right->mA,getElem?_range->nV,eq_nil_of_length_eq_zero->nf,replicate->nh,getD_eq_getElem?_getD->pH,map_congr_left->pI,mem_append_left->pJ,perm_append_comm_assoc->pM,not_mem_nil->pN,nodup_cons->ri,map_append->rk,map_nil->s8,foldl_cons->sZ,mem_append_right->uy,length_take->vQ,ext_getElem?->vR,range_succ_eq_map->vU,mem_cons_of_mem->yu
open List.Perm renaming trans->Dg,swap->Pz,append_left->pL,cons->uq
open List.Sublist renaming trans->agQ,append_left->uv
open Nat renaming add_assoc->AI,le_of_not_lt->Yr,beq->az,ble->bG,blt->cD,lt_or_ge->cZ,eq_of_beq_eq_true->cz,le_refl->dH,le_of_ble_eq_true->dJ,zero_add->eY,le_trans->hY,add_mul->ng,add_zero->pG,ble_eq_true_of_le->uu,le_add_right->yv
open Option renaming map_eq_some_iff->im,map_some->mz
open Option.some renaming injEq->aY,inj->cG
open Prod.mk renaming injEq->bC
namespace Go.Proofs.YtggfpcggakghnaaGreatDoor
section
open Go Go.RowKit Go.BigFrame Sx Vx
variable{fr:Sd.aF->Nat×Sd.ao}
def aey (i:Nat) (v:V):Bool:=match v with
 |.int .i64 _=>!iE i
 |.raw (.slice _ _ _)=>iE i
 |.sl _ _ _ _=>iE i
 |_=>false
def ug:List V->Nat->Bool
 |[],i=>az i 56
 |v::l,i=>aey i v&&ug l (i+1)
def N9 (ids:List Nat):V->Option aQ|.raw (.slice a _ _)=>a|.sl i o _ _=>some ⟨ids.getD i 0,o,none⟩|_=>none
def Fa:V->Nat|.raw (.slice _ n _)=>n|.sl _ _ n _=>n|_=>0
def N_:V->Nat|.raw (.slice _ _ c)=>c|.sl _ _ _ c=>c|_=>0
def xW (ids:List Nat) (i:Nat) (v:V):ae:=bif iE i then .slice (N9 ids v) (Fa v) (N_ v)else .int .i64 (iN v)
theorem aez (ids:List Nat):∀(l:List V) (i:Nat),ug l i=true->i+l.length=56/\ai ids l=(bw l.length).map λj=>xW ids (i+j) (nth l j)
 |[],i,h=>⟨cz h,rfl⟩
 |v::l,i,h=>by
  unfold ug at h;rw[bu]at h;obtain⟨h1,h2⟩:=aez ids l (i+1) h.2;refine⟨by simp;omega,?_⟩;rw[h_,vU,eF,lQ];simp only[ai,h2];have e:(bw l.length).map (λj=>xW ids (i+1+j) (nth l j))=(bw l.length).map ((λj=>xW ids (i+j) (nth (v::l) j))∘Nat.succ):=by
   apply pI;intro j _;show xW ids (i+1+j) (nth l j)=xW ids (i+(j+1)) (nth l j);rw[show i+1+j=i+(j+1) by omega]
  rw[e];have hv:cl v (den ids v)=[xW ids (i+0) (nth (v::l) 0)]:=by
   have h3:=h.1;unfold aey at h3;split at h3
   ·have:iE i=false:=by simpa using h3
    simp only[cl,den,nth,xW,pG,this,cond_false,iN]
   ·simp only[cl,den,nth,xW,pG,h3,cond_true,N9,Fa,N_]
   ·simp only[cl,den,nth,xW,pG,h3,cond_true,N9,Fa,N_]
   ·cases h3
  rw[hv];rfl
def Fb (l:List V) (f:Nat->Nat×Sd.ao):Sd.aO:=⟨λi=>iN (nth l i),f⟩
theorem Wj {l:List V} (h:ug l 0=true) (f:Nat->Nat×Sd.ao) (ids:List Nat):(aH ids [.agg l]).toArray=#[.agg (kK (Fb l f) (λj=>N9 ids (nth l (j+5))) (λj=>Fa (nth l (j+5))) (λj=>N_ (nth l (j+5))))]:=by
 obtain⟨h1,h2⟩:=aez ids l 0 h;simp only[aH,den];rw[h2,show l.length=56 by omega];rfl
def Ag:Nat->Nat×Sd.ao:=λ_=>(0,λ_=>0)
def Wk:QF:=⟨27,λargs _=>match args with
 |[.agg l]=>bif ug l 0 then some (True,.int .i64 (ma (λi=>iN (nth l i)) (λj=>Fa (nth l (j+5)))))else none
 |_=>none⟩
def Wl:QF:=⟨30,λargs _=>match args with
 |[.agg l]=>bif ug l 0 then some (True,.agg (di (Sd.Tok.new (Fb l Ag))))else none
 |_=>none⟩
def Wm:QF:=⟨33,λargs _=>match args with
 |[.raw (.slice none 0 0)]=>some (True,.agg [.bS .u8 32 λ_=>0])
 |_=>none⟩
theorem aue (gl:Nat->Option Nat):Wk.Ok prog gl:=by
 intro args bl p_ v_ h hp ids w _ _;unfold Wk at h;dsimp only at h;split at h
 ·rename_i l;cases hq:ug l 0 with
  |false=>rw[hq]at h;cases h
  |true=>
   rw[hq]at h;simp only[cond_true,aY,bC]at h;obtain⟨rfl,rfl⟩:=h;rw[Wj hq Ag ids];exact anU (Fb l Ag) _ _ _ w
 ·cases h
theorem auf (gl:Nat->Option Nat):Wl.Ok prog gl:=by
 intro args bl p_ v_ h hp ids w _ _;unfold Wl at h;dsimp only at h;split at h
 ·rename_i l;cases hq:ug l 0 with
  |false=>rw[hq]at h;cases h
  |true=>
   rw[hq]at h;simp only[cond_true,aY,bC]at h;obtain⟨rfl,rfl⟩:=h;rw[Wj hq Ag ids];exact abK (Fb l Ag) _ _ _ w
 ·cases h
theorem aug (gl:Nat->Option Nat):Wm.Ok prog gl:=by
 intro args bl p_ v_ h hp ids w _ _;unfold Wm at h;dsimp only at h;split at h
 ·simp only[aY,bC]at h;obtain⟨rfl,rfl⟩:=h;exact told (anX w)
 ·cases h
def Fc (p:Sd.aO):Sd.aa:=⟨.new p,[],[]⟩
def Oa:dc (LG fr):=λargs bl ch K=>match args with
 |[.agg l]=>cond (ug l 0&&bM bl.length bl) (K (.ptr bl.length 0) (bl++[gM (Fc (Fb l Ag))]) ch) False
 |_=>False
theorem I_ (p:Sd.aO) (bt:Nat) (ids:List Nat):aD ids bt (gM (Fc p))=⟨bt,true,.cells (jF (false,⟨0,0⟩) (f3 ⟨false,⟨0,0⟩,0,(λ_=>0),⟨false,0,0⟩⟩ ⟨false,⟨0,0⟩,0,(λ_=>0),⟨false,0,0⟩⟩ ⟨false,⟨0,0⟩,0,(λ_=>0),⟨false,0,0⟩⟩) (p.i 42) (p.i 49)) 157 (0,0)⟩:=by kernel_rfl
def Wo:List V:=[.bool false,.int .i64 0,.int .i64 0,.int .i64 0]++(nh 32 (.int .u8 0)++[.bool false,.int .i64 0,.int .u64 0])
def Ob (b m:Int):List V:=[.bool false,.int .i64 0,.int .i64 0]++(Wo++(Wo++(Wo++[.int .i64 b,.int .i64 m])))
theorem auh (p:Sd.aO) (ka:Nat->Option aQ) (kn kc:Nat->Nat) (K:VK Empty):br (bZ prog de ([]:List (bR Empty))) 30 31 [.agg (fH p ka kn kc)] [] [] (bA 0 K)=K (.ptr 0 0) [⟨true,⟨157,(0,0)⟩,Ob (p.i 42) (p.i 49)⟩] []:=by kernel_rfl
theorem aui (p:Sd.aO) (bt:Nat) (ids:List Nat):aD ids bt ⟨true,⟨157,(0,0)⟩,Ob (p.i 42) (p.i 49)⟩=aD ids bt (gM (Fc p)):=by kernel_rfl
theorem aeA {G:Type} [Bl G] {C:Ctx G} {f n:Nat} {args:List V} {ch0:List G} {K:VK G} (hT:∀f c,C.T f=some c->Sound C.P C.gl f c) (hQ:ql C) (I5:C.gl=de) (cS:Hd (br C n f args [] ch0 K))
 {Y:List aj} {ms:List Nat} {w0 w:ag} (S:St ms w0 (aC ch0 Y) w):
 aV C.P f (aH [] args).toArray w λv w'=>∃(x:V) (more:List Nat) (bl':List VB) (ch':List G),v=den more x/\more.length=bl'.length/\St ms w0 (lits more more bl'++aC ch' Y) w'/\K x bl' ch':=DV hT hQ I5 cS.h S
theorem auj (p:Sd.aO) (ka:Nat->Option aQ) (kn kc:Nat->Nat) {Y:List aj} {ms:List Nat} {w0 w:ag} (S:St ms w0 Y w):aV prog 31 #[.agg (kK p ka kn kc)] w λv w1=>∃bt,v=.pointer (some ⟨bt,0,none⟩)/\St ms w0 (aD [] bt (gM (Fc p))::Y) w1:=by
 have hv:Hd (br (bZ prog de ([]:List (bR Empty))) 30 31 [.agg (fH p ka kn kc)] [] [] (bA 0 λv b _=>v=.ptr 0 0/\b=[⟨true,⟨157,(0,0)⟩,Ob (p.i 42) (p.i 49)⟩])):=⟨by rw[auh];exact⟨rfl,rfl⟩⟩;have hr:=aeA (C:=bZ prog de ([]:List (bR Empty))) (aI.nil (P:=prog) (gl:=de)).T (aI.nil (P:=prog) (gl:=de)).Q rfl hv (Y:=Y) S;clear hv;refine hr.mono ?_;rintro v w' ⟨y,more,bl',ch',rfl,h1,S',hK⟩;obtain⟨v2,cJ,bl2,e,dv,S2,rfl,rfl⟩:=iB (n0:=0) (ids:=more) h1 (by simp) S' hK
 match cJ,dv,e,S2 with
 |[bt],_,e,S2=>
  have S3:St ms w0 ([aD [bt] bt ⟨true,⟨157,(0,0)⟩,Ob (p.i 42) (p.i 49)⟩]++Y) w':=match ch',S2 with
   |[],S2=>S2
   |e::_,_=>nomatch e
  rw[aui,I_,<-I_ p bt []]at S3;exact⟨bt,e,S3⟩
theorem auk:uW prog de (⟨31,true,Oa⟩:bR (LG fr)):=by
 refine⟨?_,λ_ args bl ch K h=>?_⟩
 ·intro args ids bl ch R ms w0 w K hg hl S hc;simp only at hc;unfold Oa at hc;split at hc
  ·rename_i l;cases hq:ug l 0&&bM bl.length bl with
   |false=>rw[hq]at hc;exact hc.elim
   |true=>
    rw[hq]at hc;simp only[bu]at hq;rw[Wj hq.1 Ag ids];refine(auj (Fb l Ag) _ _ _ S).mono ?_;rintro v w' ⟨bt,rfl,S2⟩;rw[I_]at S2;refine⟨_,[bt],_,ch,?_,by simp[hl],?_,hc⟩
    ·simp only[den];rw[<-hl,kZ]
    ·rw[fC _ _ _ _ hl,fD _ _ (by rw[hl];exact hq.2)];simp only[lits];rw[I_];refine S2.perm ?_;rw[bU];exact jU.symm
  ·exact hc.elim
 ·simp only at h⊢;unfold Oa at h⊢;split at h
  ·rename_i l;cases hq:ug l 0&&bM bl.length bl with
   |false=>rw[hq]at h;exact h.elim
   |true=>rw[hq]at h;exact⟨h,_,rfl⟩
  ·exact h.elim
def Ja (P:aL):(bh->V)->Op->List VB->List (LG fr)->VK (LG fr)->Prop:=λe op bl ch K=>match op with
 |.call c=>(match c.callee,c.args.toList,c.argTypes.toList with
  |.builtin .append,[s,xs],[t,tx]=>(match P.underlying t,P.underlying tx with
   |some (.slice 5),some (.slice _)=>(match e s,e xs,ch with
    |.sl i 0 0 0,.raw (.slice a m c),.a_ u::rest=>cond (bM bl.length bl) (∃f,(kE u a m c f/\m<=1000000/\0<m)/\∀d:Nat,K (.sl bl.length 0 m (m+d)) (bl++[dF m d f]) (.a_ u::rest)) False
    |_,_,_=>False)
   |_,_=>False)
  |_,_,_=>False)
 |_=>False
theorem Wp {gl:Nat->Option Nat}:gv (G:=LG fr) prog gl (Ja prog):=by
 intro e op ids bl ch R ms w0 w K ρ o hg hl S ba ho h;unfold Ja at h;split at h
 ·rename_i c;split at h
  ·rename_i s xs t tx fl cV ei;split at h
   ·rename_i T ht gG;split at h
    ·rename_i i a m c' u rest gV gn;cases hq:bM bl.length bl with
     |false=>rw[hq]at h;exact h.elim
     |true=>
      rw[hq]at h;obtain⟨f,⟨hk,hm,lB⟩,h1⟩:=h;have wo:∀y∈dR u,y∈lits ids ids bl++aC (.a_ u::rest) R:=λy hy=>by
       refine uy _ ?_;show y∈dR u++aC rest R;exact pJ _ hy
      have gd:=Qb (P:=prog) (⟨hm,aem S wo hk⟩:eJ w a m c' f) gG;obtain⟨oe,ar,iO⟩:=c;simp only at fl cV ei;have e2:ar=#[s,xs]:=by rw[<-cV]
      have e3:iO=#[t,tx]:=by rw[<-ei]
      subst fl e2 e3;have iT:ρ s=.slice (some ⟨ids.getD i 0,0,none⟩) 0 0:=by rw[ba,gV];simp only[den]
      have rU:ρ xs=.slice a m c':=by rw[ba,gn];simp only[den]
      obtain⟨c2,w2,bQ,cB,hle,I4⟩:=We (g:=f) (x:=a) (ty:=o.type) (t:=t) gd ht lB (by omega) ⟨ids.getD i 0,0,none⟩;have h2:=h1 (c2-m);rw[show m+(c2-m)=c2 by omega]at h2;refine⟨_,[w.heap.size],_,_,w2,.inl ?_,by simp[hl],?_,h2⟩
      ·rw[j_ (P:=prog) (ρ:=ρ) (o:=o) ho iT rU bQ];simp only[den];rw[<-hl,kZ]
      ·have e:aD (ids++[w.heap.size]) w.heap.size (dF m (c2-m) f)=⟨w.heap.size,true,.cells (bI m f c2) 5 (0,0)⟩:=by
        unfold aD;rw[xT,show m+(c2-m)=c2 by omega];rfl
       rw[fC _ _ _ _ hl,fD _ _ (by rw[hl];exact hq)];simp only[lits,e];refine(S.new cB (dH _) I4).perm ?_;rw[bU];exact jU.symm
    ·exact h.elim
   ·exact h.elim
  ·exact h.elim
 ·exact h.elim
def Oc (fr:Sd.aF->Nat×Sd.ao):List (bR (LG fr)):=⟨31,true,Oa⟩::qL (LG fr) [Wk,Wl,Wm,Nl]
theorem aeB:aI prog de (Oc fr):=aI.cons auk (kj (bO.cons (aue _) (bO.cons (auf _) (bO.cons (aug _) (bO.cons (ac5 _) bO.nil)))))
def aul (p:Sd.aO) (kn d:Nat->Nat):List V:=(bw 56).map λo=>bif bG 5 o&&bG o 8 then .sl (o-4) 0 (kn (o-5)) (kn (o-5)+d (o-5))else .int .i64 (p.i o)
def Wq:List V:=[.int .i64 0,.bool false]++nh 8 (.int .u8 0)
def Ws (p:Sd.aO) (kn d:Nat->Nat):List V:=aul p kn d++(di (Sd.Tok.new p)++(.ptr 5 0::(Wq++(Wq++(Wq++([.ptr 6 0,.int .i64 0,.int .i64 0,.int .i64 (p.i 39)]++(oz ⟨2,4,0⟩++(zJ ⟨1,⟨0,0,0,0⟩,⟨0,0,0,0⟩,⟨2,4,0⟩⟩++[.bS .u8 32 λ_=>0]))))))))
def Od (p:Sd.aO) (kn d:Nat->Nat) (kf:Nat->Nat->Int):List VB:=[⟨true,⟨105,(0,0)⟩,Ws p kn d⟩,dF (kn 0) (d 0) (kf 0),dF (kn 1) (d 1) (kf 1),dF (kn 2) (d 2) (kf 2),dF (kn 3) (d 3) (kf 3),
 ⟨true,⟨146,(0,0)⟩,[.raw (.slice none 0 0),.int .i64 (p.i 48),.int .u64 0]⟩,gM (Fc p)]
def Oe (u:ag) (xa:Nat->aQ) (kn kc:Nat->Nat) (i:Nat) (X:(Nat->Int)->Nat->Prop):Prop:=∃f,(kE u (some (xa i)) (kn i) (kc i) f/\kn i<=1000000/\0<kn i)/\∀d,X f d
def Of (p:Sd.aO) (xa:Nat->aQ) (kn kc:Nat->Nat):Int:=ma (λi=>iN (nth (fH p (λi=>some (xa i)) kn kc) i)) (λj=>Fa (nth (fH p (λi=>some (xa i)) kn kc) (j+5)))
theorem aum (p:Sd.aO) (xa:Nat->aQ) (kn kc:Nat->Nat):Of p xa kn kc=ma p.i kn:=by kernel_rfl
def Ga (u:ag) (p:Sd.aO) (xa:Nat->aQ) (kn kc:Nat->Nat) (K:VK (LG fr)):Prop:=True/\cond (Of p xa kn kc !=0) (K (.av [.raw (.pointer none),.int .i64 (Of p xa kn kc)]) [] [.a_ u])
 (cond (decide (p.i 48<1)) (K (.av [.raw (.pointer none),.int .i64 1]) [] [.a_ u]) (cond (decide (p.i 48>64)) (K (.av [.raw (.pointer none),.int .i64 1]) [] [.a_ u])
  (Oe u xa kn kc 0 λf0 d0=>Oe u xa kn kc 1 λf1 d1=>Oe u xa kn kc 2 λf2 d2=>Oe u xa kn kc 3 λf3 d3=>True/\True/\True/\True/\K (.av [.ptr 0 0,.int .i64 0]) (Od p kn (λj=>[d0,d1,d2,d3].getD j 0) λj=>[f0,f1,f2,f3].getD j f0) [.a_ u])))
theorem aun (u:ag) (p:Sd.aO) (xa:Nat->aQ) (kn kc:Nat->Nat) (K:VK (LG fr)):br (fW prog de (Oc fr) (Ja prog) Wp) 60 11 [.agg (fH p (λi=>some (xa i)) kn kc)] [] [.a_ u] (bA 0 K)=Ga u p xa kn kc K:=by kernel_rfl
def KN (u:ag) (p:Sd.aO) (kn:Nat->Nat) (kf:Nat->Nat->Int):VK (LG fr):=λv b ch=>∃d,v=.av [.ptr 0 0,.int .i64 0]/\b=Od p kn d kf/\ch=[.a_ u]
theorem auo {u:ag} {p:Sd.aO} {xa:Nat->aQ} {kn kc:Nat->Nat} {kf:Nat->Nat->Int} (h:ma p.i kn=0) (hk:∀i,i<4->eJ u (some (xa i)) (kn i) (kc i) (kf i)) (h1:∀i,i<4->0<kn i):Ga (fr:=fr) u p xa kn kc (KN u p kn kf):=by
 have hc:Of p xa kn kc=0:=(aum p xa kn kc).trans h;have hq:=anV h;refine⟨trivial,aM (λe=>absurd hc (by simpa using e)) λ_=>aM (λe=>absurd (of_decide_eq_true e) (by omega)) λ_=>aM (λe=>absurd (of_decide_eq_true e) (by omega)) λ_=>?_⟩;exact⟨kf 0,⟨(hk 0 (by omega)).2,(hk 0 (by omega)).1,h1 0 (by omega)⟩,λd0=>⟨kf 1,⟨(hk 1 (by omega)).2,(hk 1 (by omega)).1,h1 1 (by omega)⟩,λd1=>⟨kf 2,⟨(hk 2 (by omega)).2,(hk 2 (by omega)).1,h1 2 (by omega)⟩,λd2=>⟨kf 3,⟨(hk 3 (by omega)).2,(hk 3 (by omega)).1,h1 3 (by omega)⟩,
  λd3=>⟨trivial,trivial,trivial,trivial,λj=>[d0,d1,d2,d3].getD j 0,rfl,rfl,rfl⟩⟩⟩⟩⟩
theorem aup (p:Sd.aO) (kn d:Nat->Nat) (b k0 k1 k2 k3 bq bt:Nat):aD [b,k0,k1,k2,k3,bq,bt] b ⟨true,⟨105,(0,0)⟩,Ws p kn d⟩=⟨b,true,.cells (su p (λi=>some ⟨[k0,k1,k2,k3].getD i 0,0,none⟩) kn (λi=>kn i+d i) (⟨4,(p.i 55),(-1),(⟨0,0⟩:Sd.Timer),(⟨0,0⟩:Sd.Timer),false⟩:Sd.Tok) bq
 (f3 (⟨(0:Int),false,(λ_=>0)⟩:Sd.eC) (⟨(0:Int),false,(λ_=>0)⟩:Sd.eC) (⟨(0:Int),false,(λ_=>0)⟩:Sd.eC)) bt (0:Int) (0:Int) (p.i 39) (⟨2,4,0⟩:Sd.Label) (⟨1,(⟨0,0,0,0⟩:Sd.X4),(⟨0,0,0,0⟩:Sd.X4),(⟨2,4,0⟩:Sd.Label)⟩:Sd.e_) (λ_=>0)) 105 (0,0)⟩:=by kernel_rfl
theorem auq (p:Sd.aO) (ka:Nat->Option aQ) (kn kc:Nat->Nat) (kf:Nat->Nat->Int) (h:ma p.i kn=0) (w:ag) (hk:∀i,i<4->eJ w (ka i) (kn i) (kc i) (kf i)):
 aV prog 11 #[.agg (kK p ka kn kc)] w λv w1=>∃(b bq bt:Nat) (xa:Nat->Option aQ) (xc:Nat->Nat) (B:Nat->List aj),v=.tuple #[.pointer (some ⟨b,0,none⟩),.int .i64 0]/\(∀i,i<4->ff 5 (kn i) (kf i) (xa i) (xc i) (B i))/\St [] w ([⟨b,true,.cells (su p xa kn xc (⟨4,(p.i 55),(-1),(⟨0,0⟩:Sd.Timer),(⟨0,0⟩:Sd.Timer),false⟩:Sd.Tok) bq (f3 (⟨(0:Int),false,(λ_=>0)⟩:Sd.eC) (⟨(0:Int),false,(λ_=>0)⟩:Sd.eC) (⟨(0:Int),false,(λ_=>0)⟩:Sd.eC)) bt (0:Int) (0:Int) (p.i 39) (⟨2,4,0⟩:Sd.Label) (⟨1,(⟨0,0,0,0⟩:Sd.X4),(⟨0,0,0,0⟩:Sd.X4),(⟨2,4,0⟩:Sd.Label)⟩:Sd.e_) (λ_=>0)) 105 (0,0)⟩,⟨bq,true,.cells #[.slice none 0 0,.int .i64 (p.i 48),.int .u64 0] 146 (0,0)⟩,⟨bt,true,.cells (jF (false,(⟨(0:Int),(0:Int)⟩:Sd.Timer)) (f3 (⟨false,⟨(0:Int),(0:Int)⟩,(0:Int),(λ_=>0),⟨false,(0:Int),(0:Int)⟩⟩:Sd.fN) (⟨false,⟨(0:Int),(0:Int)⟩,(0:Int),(λ_=>0),⟨false,(0:Int),(0:Int)⟩⟩:Sd.fN) (⟨false,⟨(0:Int),(0:Int)⟩,(0:Int),(λ_=>0),⟨false,(0:Int),(0:Int)⟩⟩:Sd.fN)) (p.i 42) (p.i 49)) 157 (0,0)⟩]++(B 0++(B 1++(B 2++(B 3++[]))))) w1:=by
 have yy:∀i,i<4->0<kn i:=by
  have:(zQ kn&&tQ (kn 3))=true:=by
   cases e:(zQ kn&&tQ (kn 3))with
   |true=>rfl
   |false=>exfalso;unfold ma at h;repeat' split at h
           all_goals first|omega|(rename_i zT;simp[e]at zT)
  simp only[zQ,tQ,bu,decide_eq_true_eq]at this;intro i hi
  match i,hi with
  |0,_=>omega
  |1,_=>omega
  |2,_=>omega
  |3,_=>omega
  |i+4,h=>exact absurd h (by omega)
 have hx:∀i,∃x,i<4->ka i=some x:=by
  intro i;by_cases hi:i<4
  ·cases e:ka i with
   |none=>have:=((hk i hi).2.2.1 e).1;have:=yy i hi;omega
   |some x=>exact⟨x,λ_=>rfl⟩
  ·exact⟨⟨0,0,none⟩,λh=>absurd h hi⟩
 let ya:Nat->aQ:=λi=>Classical.choose (hx i)
 have hy:∀i,i<4->ka i=some (ya i):=λi=>Classical.choose_spec (hx i);have e0:#[Value.agg (kK p ka kn kc)]=(aH [] [.agg (fH p (λi=>some (ya i)) kn kc)]).toArray:=by
  have e1:kK p ka kn kc=kK p (λi=>some (ya i)) kn kc:=by
   unfold kK;rw[hy 0 (by omega),hy 1 (by omega),hy 2 (by omega),hy 3 (by omega)]
  exact(congrArg (λx=>#[Value.agg x]) e1).trans (by kernel_rfl)
 rw[e0];have hv:Hd (br (fW prog de (Oc λ_=>(0,λ_=>0)) (Ja prog) Wp) 60 11 [.agg (fH p (λi=>some (ya i)) kn kc)] [] [.a_ w] (bA 0 (KN w p kn kf))):=⟨by rw[aun];exact auo h (λi hi=>by rw[<-hy i hi];exact hk i hi) yy⟩;have hr:=aeA (C:=fW prog de (Oc λ_=>(0,λ_=>0)) (Ja prog) Wp) aeB.T aeB.Q rfl hv (Y:=[]) (show St [] w (aC [LG.a_ w] []) w from aaQ w);clear hv;refine hr.mono ?_;rintro v w' ⟨y,more,bl',ch',rfl,Wt,S',hK⟩;obtain⟨v2,cJ,bl2,e,dv,S2,d,rfl,rfl,rfl⟩:=iB (n0:=0) (ids:=more) Wt (by simp) S' hK
 match cJ,dv,e,S2 with
 |[b,k0,k1,k2,k3,bq,bt],_,e,S2=>
  refine⟨b,bq,bt,λi=>some ⟨[k0,k1,k2,k3].getD i 0,0,none⟩,λi=>kn i+d i,λi=>[⟨[k0,k1,k2,k3].getD i 0,true,.cells (bI (kn i) (kf i) (kn i+d i)) 5 (0,0)⟩],e,λi hi=>⟨yv _ _,.inr ⟨_,rfl,rfl⟩⟩,?_⟩;have Og:∀(ids:List Nat) (k i:Nat),aD ids k (dF (kn i) (d i) (kf i))=⟨k,true,.cells (bI (kn i) (kf i) (kn i+d i)) 5 (0,0)⟩:=λids k i=>by unfold aD;rw[xT];rfl
  have el:lits [b,k0,k1,k2,k3,bq,bt] [b,k0,k1,k2,k3,bq,bt] (Od p kn d kf)=aD [b,k0,k1,k2,k3,bq,bt] b ⟨true,⟨105,(0,0)⟩,Ws p kn d⟩::([aD [b,k0,k1,k2,k3,bq,bt] k0 (dF (kn 0) (d 0) (kf 0)),aD [b,k0,k1,k2,k3,bq,bt] k1 (dF (kn 1) (d 1) (kf 1)),aD [b,k0,k1,k2,k3,bq,bt] k2 (dF (kn 2) (d 2) (kf 2)),
   aD [b,k0,k1,k2,k3,bq,bt] k3 (dF (kn 3) (d 3) (kf 3))]++[⟨bq,true,.cells #[.slice none 0 0,.int .i64 (p.i 48),.int .u64 0] 146 (0,0)⟩,aD [b,k0,k1,k2,k3,bq,bt] bt (gM (Fc p))]):=rfl
  rw[Og,Og,Og,Og,I_,aup]at el;have S3:=S2.sub (List.sublist_append_left _ _);have S4:St [] w (lits [b,k0,k1,k2,k3,bq,bt] [b,k0,k1,k2,k3,bq,bt] (Od p kn d kf)) w':=S3;rw[el]at S4;exact S4.perm (uq _ List.perm_append_comm)
def aeC (i:Nat) (v:V):Bool:=match v with
 |.int .i64 _=>!iE i
 |.sl _ 0 _ _=>iE i
 |_=>false
def xX:List V->Nat->Bool
 |[],i=>az i 56
 |v::l,i=>aeC i v&&xX l (i+1)
def sI:V->Nat|.sl i _ _ _=>i|_=>0
def sM:V->Nat|.sl _ _ n _=>n|_=>0
def sK:V->Nat|.sl _ _ _ c=>c|_=>0
def CN (ids:List Nat) (i:Nat) (v:V):ae:=bif iE i then .slice (some ⟨ids.getD (sI v) 0,0,none⟩) (sM v) (sK v)else .int .i64 (iN v)
theorem aeD (ids:List Nat):∀(l:List V) (i:Nat),xX l i=true->i+l.length=56/\ai ids l=(bw l.length).map λj=>CN ids (i+j) (nth l j)
 |[],i,h=>⟨cz h,rfl⟩
 |v::l,i,h=>by
  unfold xX at h;rw[bu]at h;obtain⟨h1,h2⟩:=aeD ids l (i+1) h.2;refine⟨by simp;omega,?_⟩;rw[h_,vU,eF,lQ];simp only[ai,h2];have e:ai ids l=(bw l.length).map ((λj=>CN ids (i+j) (nth (v::l) j))∘Nat.succ):=by
   rw[h2];apply pI;intro j _;show CN ids (i+1+j) (nth l j)=CN ids (i+(j+1)) (nth l j);rw[show i+1+j=i+(j+1) by omega]
  rw[<-h2,e];have hv:cl v (den ids v)=[CN ids (i+0) (nth (v::l) 0)]:=by
   have h3:=h.1;unfold aeC at h3;split at h3
   ·have:iE i=false:=by simpa using h3
    simp only[cl,den,nth,CN,pG,this,cond_false,iN]
   ·simp only[cl,den,nth,CN,pG,h3,cond_true,sI,sM,sK]
   ·cases h3
  rw[hv];rfl
def Fe (ids:List Nat) (l:List V) (j:Nat):Option aQ:=some ⟨ids.getD (sI (nth l (j+5))) 0,0,none⟩
def iR (l:List V) (j:Nat):Nat:=sM (nth l (j+5))
def xY (l:List V) (j:Nat):Nat:=sK (nth l (j+5))
def nP (l:List V) (f:Nat->Sd.ao):Sd.aO:=⟨λi=>iN (nth l i),λj=>(iR l j,f j)⟩
theorem aeE {l:List V} (h:xX l 0=true) (f:Nat->Sd.ao) (ids:List Nat):(ai ids l).toArray=kK (nP l f) (Fe ids l) (iR l) (xY l):=by
 obtain⟨h1,h2⟩:=aeD ids l 0 h;rw[h2,show l.length=56 by omega];rfl
def Ff (bl:List VB) (v:V):Option (Nat×Sd.ao):=match v with
 |.sl i _ _ _=>(match bl[i]?with|some ⟨_,⟨5,(0,0)⟩,.bS .u8 m f::_⟩=>some (m,f)|_=>none)
 |_=>none
def mkK (l:List V) (f:Nat->Sd.ao) (ka:Nat->Option aQ) (kc:Nat->Nat) (bq tg tc:Nat):LK:=⟨ka,iR l,kc,f,bq,tg,tc,iN (nth l 48),none,0,0,λ_=>0⟩
def gQ (p:Sd.aO):Sd.aa:=⟨.new p,[],[]⟩
structure Jb (l:List V) (n:Nat->Nat):Prop where
 code:ma (λi=>iN (nth l i)) (iR l)=0
 n:∀j,j<4->n j=iR l j
 k:∀j,j<4->iR l j<=64/\iR l j<=xY l j
structure Jc (l:List V) (f:Nat->Sd.ao) (tg tc:Nat) (p:Sd.aO) (k:LK):Prop where
 eq:p=nP l f
 kn:k.kn=iR l
 kf:k.kf=f
 tg:k.tg=tg
 tc:k.tc=tc
 most:k.most=p.queue
 kR:k.px=none/\k.pn=0/\k.pc=0
def Oh:dc (LG fr):=λargs bl ch K=>match args,ch,bl with
 |[.agg l],.a_ u::rest,⟨w0,⟨tg,(0,0)⟩,c0⟩::⟨w1,⟨tc,(0,0)⟩,c1⟩::bl2=>(match Ff (⟨w0,⟨tg,(0,0)⟩,c0⟩::⟨w1,⟨tc,(0,0)⟩,c1⟩::bl2) (nth l 5),Ff (⟨w0,⟨tg,(0,0)⟩,c0⟩::⟨w1,⟨tc,(0,0)⟩,c1⟩::bl2) (nth l 6),Ff (⟨w0,⟨tg,(0,0)⟩,c0⟩::⟨w1,⟨tc,(0,0)⟩,c1⟩::bl2) (nth l 7),Ff (⟨w0,⟨tg,(0,0)⟩,c0⟩::⟨w1,⟨tc,(0,0)⟩,c1⟩::bl2) (nth l 8)with
  |some (n0,f0),some (n1,f1),some (n2,f2),some (n3,f3)=>cond (xX l 0&&bM (bl2.length+2) (⟨w0,⟨tg,(0,0)⟩,c0⟩::⟨w1,⟨tc,(0,0)⟩,c1⟩::bl2))
   (Jb l (k4 n0 n1 n2 n3)/\∀(p:Sd.aO) (k:LK) (F:aX fr (aU k (gQ p))),Jc l (k4 f0 f1 f2 f3) tg tc p k->da=F.vs->da=F.vr->
    K (.av [.ptr (bl2.length+2) 0,.int .i64 0]) (⟨w0,⟨tg,(0,0)⟩,c0⟩::⟨w1,⟨tc,(0,0)⟩,c1⟩::(bl2++[g_ k (bl2.length+3) (gQ p),gM (gQ p)])) (.a_ u::.core (bj k (gQ p) F) []::rest)) False
  |_,_,_,_=>False)
 |_,_,_=>False
theorem Oi {ids:List Nat} {bl:List VB} {X:List aj} {ms:List Nat} {w0 w:ag} {v:V} {m:Nat} {f:Sd.ao} (hl:ids.length=bl.length) (S:St ms w0 (lits ids ids bl++X) w) (h:Ff bl v=some (m,f)) (hm:m<=64) {c:Nat} (hc:m<=c):eJ w (some ⟨ids.getD (sI v) 0,0,none⟩) m c f:=by
 unfold Ff at h;split at h
 ·rename_i i o n c';split at h
  ·rename_i wr m' f' r hb;obtain⟨rfl,rfl⟩:m'=m/\f'=f:=by simpa using h
   have aP:=(fV hl S hb).2;refine⟨by omega,hc,(λe=>nomatch e),λx e j hj=>?_⟩;obtain rfl:⟨ids.getD i 0,0,none⟩=x:=by simpa[sI]using e
   rw[iS,cell_of aP,eY];simp only[ai,cl,jQ];rw[iq (by simpa using hj)];simp[nV hj]
  ·cases h
 ·cases h
theorem aur (k:LK) (p:Sd.aO) (b bt:Nat):aD (cO b bt) b (g_ k 3 (gQ p))=⟨b,true,.cells (su p k.ka k.kn k.kc ⟨4,p.i 55,-1,⟨0,0⟩,⟨0,0⟩,false⟩ k.bq (f3 ⟨0,false,λ_=>0⟩ ⟨0,false,λ_=>0⟩ ⟨0,false,λ_=>0⟩) bt 0 0 (p.i 39) ⟨2,4,0⟩ ⟨1,⟨0,0,0,0⟩,⟨0,0,0,0⟩,⟨2,4,0⟩⟩ (λ_=>0)) 105 (0,0)⟩:=by kernel_rfl
theorem aus (p:Sd.aO) (bt:Nat):aD [] bt (gM (gQ p))=⟨bt,true,.cells (jF (false,⟨0,0⟩) (f3 ⟨false,⟨0,0⟩,0,(λ_=>0),⟨false,0,0⟩⟩ ⟨false,⟨0,0⟩,0,(λ_=>0),⟨false,0,0⟩⟩ ⟨false,⟨0,0⟩,0,(λ_=>0),⟨false,0,0⟩⟩) (p.i 42) (p.i 49)) 157 (0,0)⟩:=by kernel_rfl
theorem aeF:Sound prog gS 11 (Oh (fr:=fr)):=by
 intro args ids bl ch R ms w0 w K hg hl S hc;unfold Oh at hc;split at hc
 ·rename_i l u rest Jd tg c0 Je tc c1 bl2;split at hc
  ·rename_i n0 y0 n1 y1 n2 y2 n3 y3 e0 e1 e2 e3;cases hq:xX l 0&&bM (bl2.length+2) (⟨Jd,⟨tg,(0,0)⟩,c0⟩::⟨Je,⟨tc,(0,0)⟩,c1⟩::bl2)with
   |false=>rw[hq]at hc;exact hc.elim
   |true=>
    rw[hq]at hc;simp only[bu]at hq;obtain⟨⟨aut,hn,hk⟩,hK⟩:=hc;have m0:n0=iR l 0:=hn 0 (by decide);have m1:n1=iR l 1:=hn 1 (by decide);have m2:n2=iR l 2:=hn 2 (by decide);have m3:n3=iR l 3:=hn 3 (by decide);have z5:∀i,i<4->eJ w (Fe ids l i) (iR l i) (xY l i) (k4 y0 y1 y2 y3 i):=by
     intro i hi
     match i,hi with
     |0,_=>subst m0;exact Oi hl S e0 (hk 0 (by decide)).1 (hk 0 (by decide)).2
     |1,_=>subst m1;exact Oi hl S e1 (hk 1 (by decide)).1 (hk 1 (by decide)).2
     |2,_=>subst m2;exact Oi hl S e2 (hk 2 (by decide)).1 (hk 2 (by decide)).2
     |3,_=>subst m3;exact Oi hl S e3 (hk 3 (by decide)).1 (hk 3 (by decide)).2
     |i+4,h=>exact absurd h (by omega)
    have cV:(aH ids [.agg l]).toArray=#[.agg (kK (nP l (k4 y0 y1 y2 y3)) (Fe ids l) (iR l) (xY l))]:=by
     simp only[aH,den,aeE hq.1 (k4 y0 y1 y2 y3) ids]
    rw[cV];refine(auq (nP l (k4 y0 y1 y2 y3)) (Fe ids l) (iR l) (xY l) (k4 y0 y1 y2 y3) aut w z5).mono ?_;rintro v w' ⟨b,bq,bt,xa,xc,B,rfl,hr,T⟩;have S2:=S.beside T (Wr.app (Wr.cons rfl (Wr.cons rfl (Wr.cons rfl Wr.nil))) (Wr.app (hr 0 (by decide)).wr (Wr.app (hr 1 (by decide)).wr (Wr.app (hr 2 (by decide)).wr (Wr.app (hr 3 (by decide)).wr Wr.nil)))))
    let k:LK:=mkK l (k4 y0 y1 y2 y3) xa xc bq tg tc
    let s:Sd.aa:=gQ (nP l (k4 y0 y1 y2 y3))
    let F:aX fr (aU k s):=⟨none,0,none,0,[⟨bq,true,.cells #[.slice none 0 0,.int .i64 k.most,.int .u64 0] 146 (0,0)⟩],[],[],[],B 0++(B 1++(B 2++(B 3++[]))),[],⟨[],none,0,0,[],rfl,yH _ _,trivial,rfl⟩,yH 6 75,yH 2 85,.nil,⟨B 0,B 1,B 2,B 3,[],rfl,hr 0 (by decide),hr 1 (by decide),hr 2 (by decide),hr 3 (by decide),P_ 5⟩⟩
    have mS:ids.length=bl2.length+2:=by simpa using hl
    refine⟨_,[b,bt],_,_,?_,by simp[mS],?_,hK _ k F ⟨rfl,rfl,rfl,rfl,rfl,rfl,rfl,rfl,rfl⟩ rfl rfl⟩
    ·have h1:(ids++[b,bt]).getD (bl2.length+2) 0=b:=by rw[<-mS];simp[ir]
     simp only[den,aH,h1]
    ·have h2:(ids++[b,bt]).getD (bl2.length+3) 0=bt:=by rw[show bl2.length+3=ids.length+1 by omega];simp[ir]
     have e1:aD (ids++[b,bt]) b (g_ k (bl2.length+3) s)=⟨b,true,.cells (su (nP l (k4 y0 y1 y2 y3)) xa (iR l) xc ⟨4,(nP l (k4 y0 y1 y2 y3)).i 55,-1,⟨0,0⟩,⟨0,0⟩,false⟩ bq (f3 ⟨0,false,λ_=>0⟩ ⟨0,false,λ_=>0⟩ ⟨0,false,λ_=>0⟩) bt 0 0 ((nP l (k4 y0 y1 y2 y3)).i 39) ⟨2,4,0⟩ ⟨1,⟨0,0,0,0⟩,⟨0,0,0,0⟩,⟨2,4,0⟩⟩ (λ_=>0)) 105 (0,0)⟩:=by
      rw[aec (a:=b) b h2];exact aur k (nP l (k4 y0 y1 y2 y3)) b bt
     have e2:aD (ids++[b,bt]) bt (gM s)=⟨bt,true,.cells (jF (false,⟨0,0⟩) (f3 ⟨false,⟨0,0⟩,0,(λ_=>0),⟨false,0,0⟩⟩ ⟨false,⟨0,0⟩,0,(λ_=>0),⟨false,0,0⟩⟩ ⟨false,⟨0,0⟩,0,(λ_=>0),⟨false,0,0⟩⟩) ((nP l (k4 y0 y1 y2 y3)).i 42) ((nP l (k4 y0 y1 y2 y3)).i 49)) 157 (0,0)⟩:=by
      rw[nC (ids':=[]) (Ib s)];exact aus (nP l (k4 y0 y1 y2 y3)) bt
     have e3:(⟨Jd,⟨tg,(0,0)⟩,c0⟩::⟨Je,⟨tc,(0,0)⟩,c1⟩::(bl2++[g_ k (bl2.length+3) s,gM s]))=(⟨Jd,⟨tg,(0,0)⟩,c0⟩::⟨Je,⟨tc,(0,0)⟩,c1⟩::bl2)++[g_ k (bl2.length+3) s,gM s]:=rfl;rw[e3,fC _ _ _ _ hl,fD _ _ (by rw[hl];exact hq.2)];show St ms w0 ((lits ids ids (⟨Jd,⟨tg,(0,0)⟩,c0⟩::⟨Je,⟨tc,(0,0)⟩,c1⟩::bl2)++[aD (ids++[b,bt]) b (g_ k (bl2.length+3) s),aD (ids++[b,bt]) bt (gM s)])++(dR u++((F.B++[])++aC rest R))) w';rw[e1,e2];have hF:F.B=⟨bq,true,.cells #[.slice none 0 0,.int .i64 ((nP l (k4 y0 y1 y2 y3)).i 48),.int .u64 0] 146 (0,0)⟩::(B 0++(B 1++(B 2++(B 3++[])))):=rfl;rw[hF];refine S2.perm ?_;show List.Perm (_++(_++(dR u++aC rest R))) _;exact ij λf=>by simp only[iI,AP,AR];omega
  ·exact hc.elim
 ·exact hc.elim
theorem Wu (n:Nat):∀(l:List V) (i:Nat),nth (pz n l) i=hU n (nth l i)
 |[],_=>rfl
 |_::_,0=>rfl
 |_::l,i+1=>Wu n l i
theorem Wv {α:Type} (f:α->V):∀(l:List α) (i:Nat) (a:α),l[i]?=some a->nth (l.map f) i=f a
 |[],_,_,h=>by simp at h
 |x::l,0,a,h=>by simp at h;subst h;rfl
 |x::l,i+1,a,h=>Wv f l i a (by simpa using h)
section
variable(n:Nat) (p:Nat->Int) (kn d:Nat->Nat)
abbrev gw:List V:=pz n (I9 p kn d)
theorem Jf {i:Nat} (hi:i<56) (hk:iE i=false):iN (nth (gw n p kn d) i)=p i:=by
 unfold gw;rw[Wu,I9,Wv _ _ i i (by rw[nV hi]),hk];rfl
theorem aeG {j:Nat} (hj:j<4):nth (gw n p kn d) (j+5)=.sl (j+n) 0 (kn j) (kn j+d j):=by
 unfold gw;rw[Wu,I9,Wv _ _ (j+5) (j+5) (by rw[nV (by omega)])];have hk:iE (j+5)=true:=by
  match j,hj with
  |0,_=>rfl
  |1,_=>rfl
  |2,_=>rfl
  |3,_=>rfl
  |j+4,h=>exact absurd h (by omega)
 rw[hk,Nat.add_sub_cancel];rfl
theorem Ah {j:Nat} (hj:j<4):iR (gw n p kn d) j=kn j:=by unfold iR;rw[aeG _ _ _ _ hj];rfl
theorem aeH {j:Nat} (hj:j<4):xY (gw n p kn d) j=kn j+d j:=by unfold xY;rw[aeG _ _ _ _ hj];rfl
end
theorem auu (x:Int):0<=bits .and .i64 x 15/\bits .and .i64 x 15<=15:=by
 have:=rq .i64 x 15 16 4 (by decide) (by decide) (by decide);omega
theorem auv (x:Int):0<=bits .and .i64 x 31/\bits .and .i64 x 31<=31:=by
 have:=rq .i64 x 31 32 5 (by decide) (by decide) (by decide);omega
theorem Ww (x:Int):0<=bits .and .i64 x 65535/\bits .and .i64 x 65535<=65535:=by
 have:=rq .i64 x 65535 65536 16 (by decide) (by decide) (by decide);omega
theorem Wx (x:Int):oC (bits .and .i64 x 14)=true:=by
 rw[aq6];simp only[oC,j4,bu,decide_eq_true_eq,beq_iff_eq];omega
theorem one_mod (a:Int) {m:Int} (h:0<m) (h2:m<=1000000):i64.wrap (1+dt a m)=1+dt a m:=by
 have:=CL a h h2;exact kQ (by omega)
theorem CM.perm {q:Nat->Int} {o1 o2 o3:Int} (h:CM q o1 o2 o3):(o1=1/\o2=2/\o3=3)\/(o1=1/\o2=3/\o3=2)\/(o1=2/\o2=1/\o3=3)\/(o1=2/\o2=3/\o3=1)\/(o1=3/\o2=1/\o3=2)\/(o1=3/\o2=2/\o3=1):=by
 rcases h with⟨_,⟨_,a,b,c⟩|⟨_,a,b,c⟩⟩|⟨_,⟨_,a,b,c⟩|⟨_,a,b,c⟩⟩|⟨_,⟨_,a,b,c⟩|⟨_,a,b,c⟩⟩<;>subst a b c<;>simp
theorem aeI {q:Nat->Int} {kn:Nat->Nat} (hp:(q 1=1/\q 2=2/\q 3=3)\/(q 1=1/\q 2=3/\q 3=2)\/(q 1=2/\q 2=1/\q 3=3)\/(q 1=2/\q 2=3/\q 3=1)\/(q 1=3/\q 2=1/\q 3=2)\/(q 1=3/\q 2=2/\q 3=1))
 (h0:q 0=0/\q 4=4/\q 9=1/\q 13=0/\q 50=0) (hk:∀j,j<4->1<=kn j/\kn j<=64) (hr:oC (q 10)=true/\oC (q 11)=true/\oC (q 12)=true) (ht:∀i,14<=i->i<=33->0<=q i/\q i<=15) (hg:∀i,34<=i->i<=38->0<=q i/\q i<=31)
 (hm:∀i,39<=i->i<=41->0<=q i/\q i<=4) (hs:∀i,42<=i->i<=46->1<=q i/\q i<=1000) (hb:0<=q 47/\q 47<=1000) (hq:∀i,48<=i->i<=49->1<=q i/\q i<=3) (hl:∀i,51<=i->i<=53->0<=q i/\q i<=1000) (ha:1<=q 54/\q 54<=1000) (he:0<=q 55/\q 55<=65535):
 ma q kn=0/\∀ks,Sd.fk ⟨q,ks⟩:=by
 obtain⟨z0,z4,z9,z13,z50⟩:=h0;have vD:∀{lo hi n:Int},lo<=n/\n<=hi->j4 lo hi n=true:=λh=>by simp[j4,h.1,h.2]
 have auw:HW q=true:=by
  rcases hp with⟨a,b,c⟩|⟨a,b,c⟩|⟨a,b,c⟩|⟨a,b,c⟩|⟨a,b,c⟩|⟨a,b,c⟩<;>simp[HW,qJ,z0,z4,a,b,c]
 have z5:(zQ kn&&tQ (kn 3))=true:=by
  have:=hk 0 (by decide);have:=hk 1 (by decide);have:=hk 2 (by decide);have:=hk 3 (by decide)
  simp only[zQ,tQ,bu,decide_eq_true_eq];omega
 have auy:(q 9==1&&(q 13==0&&Ca q))=true:=by simp[Ca,z9,z13,hr]
 have auz:HX q=true:=by
  simp only[HX,allI,bu];refine⟨?_,?_,?_,?_,?_⟩<;>refine⟨?_,?_,?_,?_,trivial⟩<;>exact vD (ht _ (by decide) (by decide))
 have hgr:allI 0 31 [q 34,q 35,q 36,q 37,q 38]=true:=by
  simp only[allI,bu];refine⟨?_,?_,?_,?_,?_,trivial⟩<;>exact vD (hg _ (by decide) (by decide))
 have hmo:allI 0 4 [q 39,q 40,q 41]=true:=by
  simp only[allI,bu];refine⟨?_,?_,?_,trivial⟩<;>exact vD (hm _ (by decide) (by decide))
 have hti:allI 1 1000 [q 42,q 43,q 44,q 45]=true:=by
  simp only[allI,bu];refine⟨?_,?_,?_,?_,trivial⟩<;>exact vD (hs _ (by decide) (by decide))
 have fw:(j4 1 1000 (q 46)&&j4 0 1000 (q 47))=true:=by rw[vD (hs 46 (by decide) (by decide)),vD hb];rfl
 have Jg:allI 1 3 [q 48,q 49]=true:=by
  simp only[allI,bu];refine⟨?_,?_,trivial⟩<;>exact vD (hq _ (by decide) (by decide))
 have hli:(q 50==0&&(allI 0 1000 [q 51,q 52,q 53]&&j4 1 1000 (q 54)))=true:=by
  rw[z50,vD ha];simp only[allI,bu];refine⟨by decide,⟨?_,?_,?_,trivial⟩,trivial⟩<;>exact vD (hl _ (by decide) (by decide))
 refine⟨?_,λks=>?_⟩
 ·unfold ma;rw[auw,z5,auy,auz,hgr,hmo,hti,fw,Jg,hli,vD he];rfl
 ·refine⟨z0,z4,hp,hm 39 (by decide) (by decide),hm 40 (by decide) (by decide),hm 41 (by decide) (by decide),hs 42 (by decide) (by decide),hs 43 (by decide) (by decide),hs 44 (by decide) (by decide),hs 45 (by decide) (by decide),hs 46 (by decide) (by decide),hb,hq 48 (by decide) (by decide),hq 49 (by decide) (by decide),?_,ha,he⟩;intro c hc;show 0<=q (50+c)/\q (50+c)<=1000
  match c,hc with
  |0,_=>rw[z50];decide
  |1,_=>exact hl 51 (by decide) (by decide)
  |2,_=>exact hl 52 (by decide) (by decide)
  |3,_=>exact hl 53 (by decide) (by decide)
  |c+4,h=>exact absurd h (by omega)
structure CO (p:Nat->Int) (o1 o2 o3:Int) (q:Nat->Int):Prop where
 lo:∀i,i<=4\/(9<=i/\i<=41)\/(47<=i/\i<=55)->p i=oH o1 o2 o3 q i
 ti:∀i,42<=i->i<=46->1<=p i/\p i<=1000
theorem auA {o1 o2 o3:Int} {q:Nat->Int} {i:Nat} (h1:42<=i) (h2:i<=46):1<=oH o1 o2 o3 q i/\oH o1 o2 o3 q i<=1000:=by
 have:oH o1 o2 o3 q i=i64.wrap (1+dt (q i) 1000):=by
  have:i=42\/i=43\/i=44\/i=45\/i=46:=by omega
  rcases this with rfl|rfl|rfl|rfl|rfl<;>rfl
 rw[this,one_mod _ (by decide) (by decide)];have:=CL (q i) (m:=1000) (by decide) (by decide);omega
theorem CO.ok {p:Nat->Int} {o1 o2 o3:Int} {q:Nat->Int} (h:CO p o1 o2 o3 q) (ho:CM q o1 o2 o3) {kn:Nat->Nat} (hk:∀j,j<4->1<=kn j/\kn j<=64):ma p kn=0/\∀ks,Sd.fk ⟨p,ks⟩:=by
 have g:=λi hi=>h.lo i hi;have md:=λ(i:Nat) (m:Int) (h1:0<m) (h2:m<=1000000)=>CL (q i) h1 h2;refine aeI ?_ ⟨g 0 (by decide),g 4 (by decide),g 9 (by decide),g 13 (by decide),g 50 (by decide)⟩ hk ⟨?_,?_,?_⟩ ?_ ?_ ?_ h.ti ?_ ?_ ?_ ?_ ?_
 ·rw[g 1 (by decide),g 2 (by decide),g 3 (by decide)];exact ho.perm
 ·rw[g 10 (by decide)];exact Wx _
 ·rw[g 11 (by decide)];exact Wx _
 ·rw[g 12 (by decide)];exact Wx _
 ·intro i h1 h2;rw[g i (by omega)];have:oH o1 o2 o3 q i=bits .and .i64 (q i) 15:=by
   unfold oH;have e1:bG i 13=false:=by cases hb:bG i 13 with|false=>rfl|true=>exact absurd (dJ hb) (by omega)
   have e2:bG i 33=true:=uu h2;rw[e1,e2];rfl
  rw[this];exact auu _
 ·intro i h1 h2;rw[g i (by omega)];have:oH o1 o2 o3 q i=bits .and .i64 (q i) 31:=by
   have:i=34\/i=35\/i=36\/i=37\/i=38:=by omega
   rcases this with rfl|rfl|rfl|rfl|rfl<;>rfl
  rw[this];exact auv _
 ·intro i h1 h2;rw[g i (by omega)];have:oH o1 o2 o3 q i=dt (q i) 5:=by
   have:i=39\/i=40\/i=41:=by omega
   rcases this with rfl|rfl|rfl<;>rfl
  rw[this];have:=md i 5 (by decide) (by decide);omega
 ·rw[g 47 (by decide)];have:=md 47 1001 (by decide) (by decide);show 0<=dt (q 47) 1001/\dt (q 47) 1001<=1000;omega
 ·intro i h1 h2;rw[g i (by omega)];have:oH o1 o2 o3 q i=i64.wrap (1+dt (q i) 3):=by
   have:i=48\/i=49:=by omega
   rcases this with rfl|rfl<;>rfl
  rw[this,one_mod _ (by decide) (by decide)];have:=md i 3 (by decide) (by decide);omega
 ·intro i h1 h2;rw[g i (by omega)];have:oH o1 o2 o3 q i=dt (q i) 1001:=by
   have:i=51\/i=52\/i=53:=by omega
   rcases this with rfl|rfl|rfl<;>rfl
  rw[this];have:=md i 1001 (by decide) (by decide);omega
 ·rw[g 54 (by decide)];show 1<=i64.wrap (1+dt (q 54) 1000)/\i64.wrap (1+dt (q 54) 1000)<=1000;rw[one_mod _ (by decide) (by decide)];have:=md 54 1000 (by decide) (by decide);omega
 ·rw[g 55 (by decide)];exact Ww _
theorem mZ {i:Nat} (h:i<5\/8<i):iE i=false:=by
 unfold iE;cases h1:bG 5 i with
 |false=>rfl
 |true=>
  cases h2:bG i 8 with
  |false=>rfl
  |true=>have:=dJ h1;have:=dJ h2;omega
theorem Made.I {x:gk} {p:Nat->Int} {n:Nat->Nat} (h:Made x p n):CO p (p 1) (p 2) (p 3) x.q:=
 ⟨λi hi=>h.p i (by omega) (mZ (by omega)),λi h1 h2=>by rw[h.p i (by omega) (mZ (by omega))];exact auA h1 h2⟩
theorem CO.at {p p':Nat->Int} {o1 o2 o3:Int} {q:Nat->Int} (h:CO p o1 o2 o3 q) (e:∀i,i<56->iE i=false->p' i=p i):CO p' o1 o2 o3 q:=
 ⟨λi hi=>by rw[e i (by omega) (mZ (by omega))];exact h.lo i hi,λi h1 h2=>by rw[e i (by omega) (mZ (by omega))];exact h.ti i h1 h2⟩
theorem auB {m:Nat} {p:Nat->Int} {n d:Nat->Nat} {o1 o2 o3:Int} {q:Nat->Int} (h:CO p o1 o2 o3 q) (ho:CM q o1 o2 o3) (hn:∀j,j<4->1<=n j/\n j<=64):Jb (gw m p n d) n/\∀f,Sd.fk (nP (gw m p n d) f):=by
 have hb:∀j,j<4->1<=iR (gw m p n d) j/\iR (gw m p n d) j<=64:=λj hj=>by rw[Ah _ _ _ _ hj];exact hn j hj
 have h1:=(h.at (p':=λi=>iN (nth (gw m p n d) i)) (λi h1 h2=>Jf m p n d h1 h2)).ok ho hb;refine⟨⟨h1.1,λj hj=>(Ah _ _ _ _ hj).symm,λj hj=>⟨(hb j hj).2,?_⟩⟩,λf=>h1.2 _⟩;rw[Ah _ _ _ _ hj,aeH _ _ _ _ hj];omega
theorem aeJ {l:List V} {f:Nat->Sd.ao} {tg tc:Nat} {p:Sd.aO} {k:LK} (hN:Jc l f tg tc p k) (h:Sd.fk (nP l f)) (hk:∀j,j<4->1<=iR l j/\iR l j<=64):eQ k (gQ p):=by
 obtain⟨rfl,h1,h2,h3,h4,h5,h6⟩:=hN;exact⟨Sd.Inv.new h,Sd.Ext.new,λi hi=>by rw[h1];exact hk i hi,λi hi=>by rw[h1,h2];rfl,rfl,rfl⟩
def f2 (a b:Int):Sd.ao:=λj=>match j with|0=>a|_=>b
def Oj (C:Sd.aK):dc (LG fr):=λargs bl ch K=>match args with
 |[.ptr ic 0,.int .i64 l,.agg [.int .i64 code,.sl ip 0 2 2]]=>(match bl[ip]?with
  |some ⟨true,⟨5,(0,0)⟩,[.int .u8 a,.int .u8 b]⟩=>N1 C [.ptr ic 0,.int .i64 l,.agg [.int .i64 code,.sl ip 0 2 2]] (bl.set ip (dF 2 0 (f2 a b))) ch K
  |_=>False)
 |_=>False
theorem auC {ids:List Nat} {bl:List VB} {ip:Nat} {b b':VB} (hl:ids.length=bl.length) (h:bl[ip]?=some b) (e:∀n,aD ids n b'=aD ids n b):lits ids ids (bl.set ip b')=lits ids ids bl:=by
 rw[<-yS ids bl ip b' hl,e,yS ids bl ip b hl];congr 1;apply vR;intro j;rw[List.getElem?_set];split
 ·rename_i hj;subst hj;rw[h];simp[iZ h]
 ·rfl
theorem aeK (ht:Body (fr:=fr) 147 dY):Sound prog gS 24 (Oj (fr:=fr) (aq ay)):=by
 intro args ids bl ch R ms w0 w K hg hl S hc;unfold Oj at hc;split at hc
 ·rename_i ic l code ip;split at hc
  ·rename_i a b hb;refine aen ht _ ids _ ch R ms w0 w K hg (by simpa using hl) ?_ hc;rw[auC (b':=dF 2 0 (f2 a b)) hl hb (λn=>rfl)];exact S
  ·exact hc.elim
 ·exact hc.elim
def j5 (t:aJ):VB:=⟨false,t,[.bS .u32 64 cT]⟩
def nK (t:aJ):VB:=⟨false,t,[.bool false,.bool false,.bool false,.bool false,.bool false,.bool false,.bool false,.bool false,.bool false,.bool false,.bool true,.bool true]⟩
def Ol (fr:Sd.aF->Nat×Sd.ao) (C:Sd.aK):List (bR (LG fr)):=[⟨10,false,N7⟩,⟨11,false,Oh⟩,⟨24,false,Oj C⟩,⟨14,false,Ad λ_=>NZ⟩]
theorem aeL (ht:Body (fr:=fr) 147 dY):aI prog gS (Ol fr (aq ay)):=
 aI.cons ⟨aex,λe=>by cases e⟩ (aI.cons ⟨aeF,λe=>by cases e⟩ (aI.cons ⟨aeK ht,λe=>by cases e⟩ (aI.cons (V_ (ael ht)) aI.nil)))
def Om:List V:=(bw 56).map λi=>bif iE i then .raw (.slice none 0 0)else .int .i64 (bif az i 10 then 2 else 0)
def Wy:gk:=⟨λi=>iN (nth Om i),λj=>sA (nth Om (j+5)),λj=>sN (nth Om (j+5)),λj=>sC (nth Om (j+5))⟩
def Wz (x:gk) (u:ag):Prop:=jL x u 0/\jL x u 1/\jL x u 2/\jL x u 3
def vE (x:gk) (u:ag):Nat->Sd.ao:=k4 (jK (x.kn 0) (fb u (x.ka 0))) (jK (x.kn 1) (fb u (x.ka 1))) (jK (x.kn 2) (fb u (x.ka 2))) (jK (x.kn 3) (fb u (x.ka 3)))
def n4 (n:Nat->Nat):Nat->Nat:=k4 (n 0) (n 1) (n 2) (n 3)
def vF (tg tc:aJ) (it:Nat) (k:LK) (s:Sd.aa):Prop:=some (j5 tg)=some (cw k)/\some (nK tc)=some (iQ k)/\mg k it s=mg k it (bP s)/\s.c.p.bV=s.c.p.bV/\s.c.p.fj=s.c.p.fj/\s.c.p.queue=k.most
section
variable(C:Sd.aK) (tg tc:aJ) (u:ag) (K:VK (LG fr))
def shE (k:LK) (s':Sd.aa) (F0:aX fr (aU k (cd s'))) (fn:List aj) (r:TR):Prop:=
 let no (b:Bool):Prop:=K (.bool b) [j5 tg,nK tc] [.a_ u,.core (bj k (cd s') F0) (fn++[])]
 cond ((s'.bg.length:Int)==1) ((0<=(0:Int)/\0<(s'.bg.length:Int))/\(0<s'.bg.length/\∀j,(mX s'.bg r.fv j).length=2)/\
  cond ((s'.bg.getD 0 default).1==1) (cond ((s'.bH.length:Int)==1) ((0<=(0:Int)/\0<(s'.bH.length:Int))/\(0<s'.bH.length/\∀j,(CK s'.bH j).length=6)/\
   cond ((s'.bH.getD 0 default).kind==2) (vF tg tc 8 k (cd s')/\∀(x:Option aQ) (c ty:Nat) (us:List ae),K (.bool ((cd s').c.t.aG==4)) [j5 tg,nK tc] [.a_ u,.core (bj k (bP (cd s')) F0) (fn++[])]) (no false)) (no false)) (no false)) (no false)
def shX:Prop:=Wz Wy u/\∀(p:Nat->Int) (n d:Nat->Nat),Made Wy p n->
 Jb (gw 2 p n d) (n4 n)/\∀(p2:Sd.aO) (k:LK) (F:aX fr (aU k (gQ p2))),Jc (gw 2 p n d) (vE Wy u) tg tc p2 k->da=F.vs->da=F.vr->
  vF tg tc 8 k (gQ p2)/\(2=2/\2+0=2/\mY=mY)/\oG k/\(eQ k (bP (gQ p2))/\da=F.vs/\da=F.vr/\2<=58/\By (f2 1 1))/\
   ∀s',s'=fF C (bP (gQ p2)) 1 0 2 (f2 1 1)->∀(r:TR) (fn:List aj) (F0:aX fr (aU k (cd s'))),da=F0.vs->da=F0.vr->lx fr s'.bg r.fv fn->shE tg tc u K k s' F0 fn r
theorem auD:br (bZ prog gS (Ol fr C)) 60 9 [] [j5 tg,nK tc] [.a_ u] (bA 2 K)=shX C tg tc u K:=by kernel_rfl
end
end
section
open Go Go.RowKit Go.BigFrame Sx Go.ChangeShapes Go.WideShapes
section
variable{H:Type} {enc:aJ×ae->H} {P:aL} {w:ag} {base:Nat} {spare:Nat->Bool} {held:Bool} {fuel:Nat} {t e:aJ} {cs:List ae} {ps:List MemPlace}
theorem aeM {l:List ae} {i:Nat} {v:ae} (h:(l.drop i).take 1=[v]):l[i]?=some v:=by
 have h1:((l.drop i).take 1)[0]?=some v:=by rw[h];rfl
 rw[PC]at h1;simpa using h1
theorem auE {k:fq} {zs:List Int} (ht:P.underlying t=some (.array zs.length e)) (he:P.underlying e=some (.int k)) (hc:P.cellsOf e=1) (hn:P.cellsOf t=zs.length)
 (h:PD enc P w base spare held fuel t cs=some (.agg (zs.map λz=>.lit (.int k z)),ps)):cs=zs.map (eA k):=by
 obtain⟨xs,m,rfl,hx,hlen,wa,nx⟩:=DataW.trod_array ht h;simp only[bC,DataW.agg.injEq]at hx;rw[hn]at hlen;apply vR;intro i;by_cases hi:i<zs.length
 ·have h1:=nx i hi;rw[hc,Nat.mul_one,jv (by omega)]at h1;obtain⟨z,e1,e2,_⟩:=DataW.trod_int he h1;have h3:(zs.map λz=>(DataW.lit (.int k z):DataW H))[i]?=(xs.map (·.1))[i]?:=by rw[hx.1]
  rw[jt,jt,jv hi,jv (by omega),mz,mz,e2]at h3;simp at h3;rw[aeM e1,jt,jv hi,mz,h3]
 ·rw[jc (by omega),jc (by simp;omega)]
theorem aeN {n:String} {g:Nat} {c:Array ae} (hg:P.globalNamed n=some g) (h:w.var? P n=some c):∃t f,w.heap[g]?=some (.cells c t f):=by
 simp only[World.var?,hg,Option.bind_some]at h;split at h
 ·next c' t f h2=>simp at h;subst h;exact⟨t,f,h2⟩
 ·cases h
end
def Jh:List Int:=(bw 64).map λi=>cT i
def On:List (String×DataW Unit):=[("sidestick/gate.commands",Rows.laid_sidestick_gate_commands),("sidestick/sha.roots",Yy)]
theorem aeO {W:ag} (h:laidMetH prog On W):∃t,W.heap[1]?=some (.cells (aE .u32 64 cT) t (0,0)):=by
 rw[MakeChecks.laidMetH_plain _ _ _ (by kernel_rfl)]at h;obtain⟨ps,⟨g0,t0,Oo,f0,p0,q0,hg0,Fg,sO,hd0,⟨g1,t1,Oq,f1,p1,q1,N0,Ot,uG,E1,_,hq⟩,qk⟩,_,nG⟩:=h;obtain rfl:g1=1:=cG (N0.symm.trans (show prog.globalNamed "sidestick/sha.roots" =some 1 by kernel_rfl));have e1:(prog.globals[1]?).map (·.type)=some 287:=by kernel_rfl
 obtain rfl:t1=287:=cG (Ot.symm.trans e1);have oW:Oq.toList=Jh.map (eA .u32):=by
  have zF:PD (λ_=>()) prog W 0 (λ_=>true) false f1 287 Oq.toList=some (.agg (Jh.map λz=>.lit (.int .u32 z)),p1):=
   E1.trans (congrArg (λd=>some (d,p1)) (show(Yy:DataW Unit)=.agg (Jh.map λz=>.lit (.int .u32 z)) by kernel_rfl))
  exact auE (k:=.u32) (zs:=Jh) (e:=56) (by kernel_rfl) (by kernel_rfl) (by kernel_rfl) (by kernel_rfl) zF
 obtain⟨t,f,aP⟩:=aeN (show prog.globalNamed "sidestick/sha.roots" =some 1 by kernel_rfl) uG;have KU:Oq=aE .u32 64 cT:=by
  apply fM;rw[oW];simp[Jh,aE]
 obtain⟨c,t',xZ⟩:=(nG 1 0 (by
  rw[qk,hq,KU];have:MemPlace.cell 1 0∈Yz ⟨1,0,none⟩ (aE .u32 64 cT).size:=by
   rw[Gb];simp[Yz]
  simp[this])).1
 rw[aP]at xZ;simp only[aY,Obj.cells.injEq]at xZ;refine⟨t,?_⟩;rw[aP,KU,xZ.2.2]
end
end Go.Proofs.YtggfpcggakghnaaGreatDoor
namespace Sd
open Go Go.RowKit
noncomputable def over (w:ag) (B:Nat) (u:ag):ag:=@ite _ (Below B w u) (Classical.propDecidable _) u w
theorem aeP (w:ag) (B:Nat) (u:ag):Below B w (over w B u):=by
 unfold over;split
 ·assumption
 ·exact Below.refl _ _
@[go_sem] theorem azD (w:World) (B:Nat) (u:World) (b o:Nat) (h:b<B):(over w B u).cell? ⟨b,o,none⟩=w.cell? ⟨b,o,none⟩:=(aeP w B u).cell h
@[go_sem] theorem azE (w:World) (B:Nat) (u:World) (b o:Nat) (h:b<B):(over w B u).frozen? ⟨b,o,none⟩=w.frozen? ⟨b,o,none⟩:=(aeP w B u).frozen h
section
variable{P:aL}
end
theorem bs {w a:ag} (h:Below w.heap.size w a) {p:aQ} (hp:w.heap.size<=p.block) (v:ae):Below w.heap.size w (a.setCell p v):=h.setCell hp v
def jy (d:TypeDesc):Bool:=match d with|.struct _|.array _ _=>true|_=>false
structure aeQ (P:aL) (ty n:Nat):Prop where
 desc:∃d,P.underlying ty=some d/\jy d=true
 size:(P.info? ty).map (·.size)=some n
theorem aeQ.load {P:aL} {ty n:Nat} (h:aeQ P ty n) {w:ag} {g:Nat} {t:aJ} {cs:Array ae} {fr:Nat×Nat} (hg:w.heap[g]?=some (.cells cs t fr)) (hn:cs.size=n):
 (loadVar ty ⟨g,0,none⟩).run P w=.ok (.agg cs) w:=by
 obtain⟨⟨d,hu,hd⟩,hs⟩:=h;exact run_loadVar_row w g t ty cs fr d hg hu (by cases d<;>first|rfl|simp[jy]at hd) (by rw[hs,hn])
section
variable{P:aL} {ops:Array ax} {rest:List ax} {o:ax} {a:Act} {w:ag} {Q:eE->Act->ag->Prop}
end
def Ji (n:Int):Prop:=-9223372036854775808<=n/\n<=9223372036854775807
theorem i64 {n:Int} (h:-9223372036854775808<=n/\n<=9223372036854775807):Ji n:=h
end Sd
namespace Sd
open Go Go.RowKit Go.ChangeShapes Go.WideShapes Go.ChangeAt
theorem aeR {H:Type} {enc:aJ×ae->H} {P:aL} (hl:laidOutB P=true) {W W':ag} (hb:Below W.heap.size W W'):
 ∀{ts:List aJ} {vs:List ae} {ds:List (DataW H)} {ps:List MemPlace},(ts.all λt=>P.readableRec t&&decide (t<P.types.size))=true->
  DataW.TrodAll enc P W 0 (λ_=>true) true ts vs ds ps->(∀p∈ps,p.block<W.heap.size)->DataW.TrodAll enc P W' 0 (λb=>decide (b<W.heap.size)) true ts vs ds ps
 |[],[],[],_,_,h,_=>h
 |t::ts,v::vs,d::ds,ps,hr,h,hp=>by
  obtain⟨p,q,h1,h2,rfl⟩:=h;simp only[List.all_cons,bu,decide_eq_true_eq]at hr;exact⟨p,q,Below.trod hl hr.1.1 hr.1.2 h1 hb (λx hx=>hp x (pJ _ hx)),aeR hl hb hr.2 h2 (λx hx=>hp x (uy _ hx)),rfl⟩
 |[],[],_::_,_,_,h,_=>h.elim
 |[],_::_,_,_,_,h,_=>h.elim
 |_::_,[],_,_,_,h,_=>h.elim
 |_::_,_::_,[],_,_,h,_=>h.elim
theorem aeS {H:Type} {enc:aJ×ae->H} {P:aL} {f:Func} {s:ChangeSpec} {W W':ag} {args:Array ae} {ds gs:List (DataW H)} {before:List MemPlace} {tb:aJ}
 (hl:laidOutB P=true) (hr:(f.params.toList.all λt=>P.readableRec t&&decide (t<P.types.size))=true) (aeT:s.vars=[]) (IE:f.resultTypes=#[tb]) (VN:P.underlying tb=some .bool)
 (hs:s.fn H (ds++gs)={results:=[.lit (.bool true)],args:=ds,vars:=[]}) (hW:DataW.Whole enc P f.params.toList s.vars false W args.toList ds gs before) (hb:Below W.heap.size W W'):
 s.post enc P f false true false false W args (.bool true) W':=by
 have hW0:=hW;have dL:=λp hp=>hW.lt p hp;obtain⟨p,q,hA,hV,rfl,hz,hn⟩:=hW;rw[aeT]at hV;obtain⟨rfl,rfl⟩:=trodVars_none hV;refine⟨ds,[],p++[],[],p,[],hW0,?_,?_,?_,?_,λh=>by cases h⟩
 ·rw[hs,IE];exact trodAll_mk1 (shut_bool VN _)
 ·rw[hs];exact aeR hl hb hr hA (λx hx=>dL x (by simpa using hx))
 ·rw[hs,aeT];exact rfl
 ·exact hb.frame _
section
variable{P:aL} {w:ag} {r:Reach} {b0:Nat} {t:aJ} {v:ae}
theorem auF {d:TypeDesc} {ts:List aJ} (hu:P.underlying t=some d) (hd:jy d=true) (hct:P.cellTypes P.depth t=some ts) (hn:P.cellsOf t=ts.length) (hv:AS P w r b0 t v):
 ∃cs:Array ae,v=.agg cs/\cs.size=ts.length/\∀(i:Nat) x u,cs[i]?=some x->ts[i]?=some u->Di P w r b0 u x:=by
 have h:∃cs,v=.agg cs/\cs.size=P.cellsOf t/\Row.okWide P w r b0 t cs:=by
  unfold AS at hv;rw[hu]at hv;cases d<;>first|exact hv|simp[jy]at hd
 obtain⟨cs,rfl,dM,ts',h1,_,h2⟩:=h;rw[hct]at h1;obtain rfl:ts=ts':=by simpa using h1
 refine⟨cs,rfl,dM.trans hn,?_⟩;intro i x u hx Ou;obtain⟨u',h3,h4⟩:=h2 i x hx;have hi:i<ts.length:=by
  rcases cZ i ts.length with h|h
  ·exact h
  ·simp[h]at Ou
 rw[Nat.mod_eq_of_lt hi,Ou]at h3;obtain rfl:u=u':=by simpa using h3
 exact h4
theorem aeU {d:TypeDesc} (hu:P.underlying t=some d) (hd:jy d=false) (hv:AS P w r b0 t v):Di P w r b0 t v:=by
 unfold AS at hv;rw[hu]at hv;cases d<;>first|exact hv|simp[jy]at hd
theorem aeV {k:fq} (hu:P.underlying t=some (.int k)) (h:Di P w r b0 t v):∃n,v=.int k n/\k.min<=n/\n<=k.max:=by
 unfold Di at h;rw[hu]at h;unfold Cell.ok at h;rw[hu]at h;cases v<;>simp at h;obtain⟨rfl,h1,h2⟩:=h;exact⟨_,rfl,h1,h2⟩
theorem auG (hu:P.underlying t=some (.int .i64)) (h:Di P w r b0 t v):∃n,v=.int .i64 n/\Ji n:=by
 obtain⟨n,h1,h2,h3⟩:=aeV hu h;exact⟨n,h1,by unfold Ji;simpa[IntKind.min,IntKind.max,uA,uz]using And.intro h2 h3⟩
theorem aeW (hu:P.underlying t=some (.int .u8)) (h:Di P w r b0 t v):∃n,v=.int .u8 n/\0<=n/\n<=255:=by
 obtain⟨n,h1,h2,h3⟩:=aeV hu h;exact⟨n,h1,by simpa[IntKind.min,IntKind.max,uA,uz]using And.intro h2 h3⟩
end
end Sd
namespace Go.Proofs.YtggfpcggakghnaaGreatDoor
section
open Go Go.RowKit Go.WideShapes Sd
def Ov (W:ag) (a:Option aQ) (n c:Nat):Prop:=n<=c/\((a=none/\n=0/\c=0)\/∃x,a=some x/\(c:Int)<=i64.max/\W.has prog .any 0 x 5 c)
theorem auH {W:ag} {v:ae} {t e:aJ} (hu:prog.underlying t=some (.slice e)) (h:Di prog W .any 0 t v):
 ∃a n c,v=.slice a n c/\n<=c/\((a=none/\n=0/\c=0)\/∃x,a=some x/\(c:Int)<=i64.max/\W.has prog .any 0 x e c):=by
 unfold Di at h;rw[hu]at h;cases v with
 |slice a n c=>
  unfold Cell.ok at h;rw[hu]at h;cases a with
  |none=>
   cases n<;>cases c<;>first|exact⟨_,_,_,rfl,by omega,Or.inl ⟨rfl,rfl,rfl⟩⟩|(simp at h)
  |some a=>exact⟨_,_,_,rfl,h.1,Or.inr ⟨a,rfl,h.2⟩⟩
 |_=>unfold Cell.ok at h;rw[hu]at h;simp at h
theorem auI {W:ag} {v:ae} (hv:AS prog W .any 0 28 v):
 ∃(q:Nat->Int) (ka:Nat->Option aQ) (kn kc:Nat->Nat),v=.agg (B_ q ka kn kc)/\(∀i,-9223372036854775808<=q i/\q i<=9223372036854775807)/\∀i,i<4->Ov W (ka i) (kn i) (kc i):=by
 obtain⟨cs,rfl,dM,oW⟩:=auF Tryz.underlying28 rfl (ts:=[3,3,3,3,3,23,23,23,23,3,3,3,3,3,3,3,3,3,3,3,3,3,3,3,3,3,3,3,3,3,3,3,3,3,3,3,3,3,3,3,3,3,3,3,3,3,3,3,3,3,3,3,3,3,3,3]) (by kernel_rfl) (by kernel_rfl) hv;have aP:∀i,i<56->∃x,cs[i]?=some x:=λi hi=>⟨cs[i]'(by rw[dM];exact hi),by rw[J9]⟩;have hI:∀i,i<56->(i<5\/8<i)->∃n,cs[i]?=some (.int .i64 n)/\Ji n:=by
  intro i hi cE;obtain⟨x,hx⟩:=aP i hi;have ht:([3,3,3,3,3,23,23,23,23,3,3,3,3,3,3,3,3,3,3,3,3,3,3,3,3,3,3,3,3,3,3,3,3,3,3,3,3,3,3,3,3,3,3,3,3,3,3,3,3,3,3,3,3,3,3,3]:List Nat)[i]?=some 3:=by clear hx;revert i;decide
  obtain⟨n,rfl,hn⟩:=auG Tryz.underlying3 (oW i x 3 hx ht);exact⟨n,hx,hn⟩
 have hS:∀i,i<4->∃a n c,cs[5+i]?=some (.slice a n c)/\Ov W a n c:=by
  intro i hi;obtain⟨x,hx⟩:=aP (5+i) (by omega);have ht:([3,3,3,3,3,23,23,23,23,3,3,3,3,3,3,3,3,3,3,3,3,3,3,3,3,3,3,3,3,3,3,3,3,3,3,3,3,3,3,3,3,3,3,3,3,3,3,3,3,3,3,3,3,3,3,3]:List Nat)[5+i]?=some 23:=by clear hx;revert i;decide
  obtain⟨a,n,c,rfl,h1,h2⟩:=auH Tryz.underlying23 (oW (5+i) x 23 hx ht);exact⟨a,n,c,hx,h1,h2⟩
 let q:Nat->Int:=λi=>match cs[i]?with|some (.int _ n)=>n|_=>0
 let ka:Nat->Option aQ:=λi=>match cs[5+i]?with|some (.slice a _ _)=>a|_=>none
 let kn:Nat->Nat:=λi=>match cs[5+i]?with|some (.slice _ n _)=>n|_=>0
 let kc:Nat->Nat:=λi=>match cs[5+i]?with|some (.slice _ _ c)=>c|_=>0
 have hq:∀i,i<56->(i<5\/8<i)->cs[i]?=some (.int .i64 (q i))/\Ji (q i):=by
  intro i hi cE;obtain⟨n,hx,hn⟩:=hI i hi cE;have:q i=n:=by simp only[q,hx]
  rw[this];exact⟨hx,hn⟩
 have hk:∀i,i<4->cs[5+i]?=some (.slice (ka i) (kn i) (kc i))/\Ov W (ka i) (kn i) (kc i):=by
  intro i hi;obtain⟨a,n,c,hx,hn⟩:=hS i hi;have h1:ka i=a:=by simp only[ka,hx]
  have h2:kn i=n:=by simp only[kn,hx]
  have h3:kc i=c:=by simp only[kc,hx]
  rw[h1,h2,h3];exact⟨hx,hn⟩
 refine⟨q,ka,kn,kc,?_,?_,λi hi=>(hk i hi).2⟩
 ·congr 1;apply Array.ext_getElem?;intro i;by_cases hi:i<56
  ·match i,hi with
   |0,_=>exact(hq 0 (by omega) (by omega)).1.trans rfl
   |1,_=>exact(hq 1 (by omega) (by omega)).1.trans rfl
   |2,_=>exact(hq 2 (by omega) (by omega)).1.trans rfl
   |3,_=>exact(hq 3 (by omega) (by omega)).1.trans rfl
   |4,_=>exact(hq 4 (by omega) (by omega)).1.trans rfl
   |5,_=>exact(hk 0 (by omega)).1.trans rfl
   |6,_=>exact(hk 1 (by omega)).1.trans rfl
   |7,_=>exact(hk 2 (by omega)).1.trans rfl
   |8,_=>exact(hk 3 (by omega)).1.trans rfl
   |9,_=>exact(hq 9 (by omega) (by omega)).1.trans rfl
   |10,_=>exact(hq 10 (by omega) (by omega)).1.trans rfl
   |11,_=>exact(hq 11 (by omega) (by omega)).1.trans rfl
   |12,_=>exact(hq 12 (by omega) (by omega)).1.trans rfl
   |13,_=>exact(hq 13 (by omega) (by omega)).1.trans rfl
   |14,_=>exact(hq 14 (by omega) (by omega)).1.trans rfl
   |15,_=>exact(hq 15 (by omega) (by omega)).1.trans rfl
   |16,_=>exact(hq 16 (by omega) (by omega)).1.trans rfl
   |17,_=>exact(hq 17 (by omega) (by omega)).1.trans rfl
   |18,_=>exact(hq 18 (by omega) (by omega)).1.trans rfl
   |19,_=>exact(hq 19 (by omega) (by omega)).1.trans rfl
   |20,_=>exact(hq 20 (by omega) (by omega)).1.trans rfl
   |21,_=>exact(hq 21 (by omega) (by omega)).1.trans rfl
   |22,_=>exact(hq 22 (by omega) (by omega)).1.trans rfl
   |23,_=>exact(hq 23 (by omega) (by omega)).1.trans rfl
   |24,_=>exact(hq 24 (by omega) (by omega)).1.trans rfl
   |25,_=>exact(hq 25 (by omega) (by omega)).1.trans rfl
   |26,_=>exact(hq 26 (by omega) (by omega)).1.trans rfl
   |27,_=>exact(hq 27 (by omega) (by omega)).1.trans rfl
   |28,_=>exact(hq 28 (by omega) (by omega)).1.trans rfl
   |29,_=>exact(hq 29 (by omega) (by omega)).1.trans rfl
   |30,_=>exact(hq 30 (by omega) (by omega)).1.trans rfl
   |31,_=>exact(hq 31 (by omega) (by omega)).1.trans rfl
   |32,_=>exact(hq 32 (by omega) (by omega)).1.trans rfl
   |33,_=>exact(hq 33 (by omega) (by omega)).1.trans rfl
   |34,_=>exact(hq 34 (by omega) (by omega)).1.trans rfl
   |35,_=>exact(hq 35 (by omega) (by omega)).1.trans rfl
   |36,_=>exact(hq 36 (by omega) (by omega)).1.trans rfl
   |37,_=>exact(hq 37 (by omega) (by omega)).1.trans rfl
   |38,_=>exact(hq 38 (by omega) (by omega)).1.trans rfl
   |39,_=>exact(hq 39 (by omega) (by omega)).1.trans rfl
   |40,_=>exact(hq 40 (by omega) (by omega)).1.trans rfl
   |41,_=>exact(hq 41 (by omega) (by omega)).1.trans rfl
   |42,_=>exact(hq 42 (by omega) (by omega)).1.trans rfl
   |43,_=>exact(hq 43 (by omega) (by omega)).1.trans rfl
   |44,_=>exact(hq 44 (by omega) (by omega)).1.trans rfl
   |45,_=>exact(hq 45 (by omega) (by omega)).1.trans rfl
   |46,_=>exact(hq 46 (by omega) (by omega)).1.trans rfl
   |47,_=>exact(hq 47 (by omega) (by omega)).1.trans rfl
   |48,_=>exact(hq 48 (by omega) (by omega)).1.trans rfl
   |49,_=>exact(hq 49 (by omega) (by omega)).1.trans rfl
   |50,_=>exact(hq 50 (by omega) (by omega)).1.trans rfl
   |51,_=>exact(hq 51 (by omega) (by omega)).1.trans rfl
   |52,_=>exact(hq 52 (by omega) (by omega)).1.trans rfl
   |53,_=>exact(hq 53 (by omega) (by omega)).1.trans rfl
   |54,_=>exact(hq 54 (by omega) (by omega)).1.trans rfl
   |55,_=>exact(hq 55 (by omega) (by omega)).1.trans rfl
   |i+56,h=>exact absurd h (by omega)
  ·rw[J3 (by rw[dM];exact Yr hi),J3 (Yr hi)]
 ·intro i;by_cases hi:i<56/\(i<5\/8<i)
  ·exact(hq i hi.1 hi.2).2
  ·have:q i=0:=by
    by_cases h5:i<56
    ·obtain⟨a,n,c,hx,_⟩:=hS (i-5) (by omega);rw[show 5+(i-5)=i by omega]at hx;simp only[q,hx]
    ·have hx:cs[i]?=none:=J3 (by rw[dM];exact Yr h5);simp only[q,hx]
   rw[this];omega
end
end Go.Proofs.YtggfpcggakghnaaGreatDoor
namespace Sx
open Go Go.RowKit
def Rd (P:aL) (w:ag):Nat->aJ->List ae->Prop
 |0,_,_=>True
 |d+1,t,cs=>
  match P.underlying t with
  |some .bool=>∃b,cs=[.bool b]
  |some (.int k)=>∃n,cs=[.int k n]/\k.min<=n/\n<=k.max
  |some (.slice e)=>cs=[.slice none 0 0]\/∃a len cap,cs=[.slice (some a) len cap]/\len<=cap/\cap<=maxLen/\∀i,i<cap->∃nB,w.cells? 0 (a.add (i*P.cellsOf e)) (P.cellsOf e)=some nB/\Rd P w d e nB
  |some (.struct fs)=>cs.length=P.cellsOf t/\∀(i:Nat) f,fs[i]?=some f->Rd P w d f.type ((cs.drop f.offset).take (P.cellsOf f.type))
  |some (.array n e)=>cs.length=P.cellsOf t/\∀i,i<n->Rd P w d e ((cs.drop (i*P.cellsOf e)).take (P.cellsOf e))
  |_=>True
section
variable{H:Type} {enc:aJ×ae->H} {P:aL} {w:ag} {held:Bool}
theorem Jj:∀(d:Nat) {fuel:Nat} {t:aJ} {cs:List ae} {x:DataW H×List MemPlace},PD enc P w 0 (λ_=>true) held fuel t cs=some x->Rd P w d t cs
 |0,_,_,_,_,_=>trivial
 |d+1,fuel,t,cs,x,h=>by
  unfold Rd;split
  ·rename_i hu;obtain⟨b,hb,_⟩:=DataW.trod_bool hu h;exact⟨b,hb⟩
  ·rename_i k hu;obtain⟨n,hn,_,hw⟩:=DataW.trod_int hu h;refine⟨n,hn,?_⟩;unfold Lit.wf at hw;simpa using hw
  ·rename_i e hu;rcases Deep.open_slice hu h with⟨h0,_⟩|⟨a,len,cap,m,n,D,Pl,hc,_,hl,hm,wL,_,hx⟩
   ·exact .inl h0
   ·refine .inr ⟨a,len,cap,hc,hl,hm,λi hi=>?_⟩;obtain⟨nB,h1,h2⟩:=hx i (by rw[wL];simpa using hi);exact⟨nB,h1,Jj d h2⟩
  ·rename_i fs hu;obtain⟨xs,n,_,_,hl,hs,hx⟩:=DataW.trod_struct hu h;refine⟨hl,λi f hf=>?_⟩;have h1:=hx i f hf;have hi:i<fs.size:=by
    rcases cZ i fs.size with h2|h2
    ·exact h2
    ·simp[h2]at hf
   rw[jv (by rw[hs];exact hi)]at h1;exact Jj d h1
  ·rename_i n e hu;obtain⟨xs,m,_,_,hl,hs,hx⟩:=DataW.trod_array hu h;refine⟨hl,λi hi=>?_⟩;have h1:=hx i hi;rw[jv (by rw[hs];exact hi)]at h1;exact Jj d h1
  ·trivial
def cellAt (P:aL):Nat->aJ->Nat->Option aJ
 |0,_,_=>none
 |d+1,t,j=>
  match P.underlying t with
  |some (.struct fs)=>fs.toList.findSome? λf=>bif bG f.offset j&&cD j (f.offset+P.cellsOf f.type)then cellAt P d f.type (j-f.offset)else none
  |some (.array n e)=>bif cD (j/P.cellsOf e) n&&cD 0 (P.cellsOf e)then cellAt P d e (j%P.cellsOf e)else none
  |_=>bif az j 0 then some t else none
theorem Jk:∀(d:Nat) {t:aJ} {cs:List ae} {j:Nat} {u:aJ} {v:ae},(∀n,Rd P w n t cs)->cellAt P d t j=some u->cs[j]?=some v->∀n,Rd P w n u [v]
 |0,_,_,_,_,_,_,h,_=>by simp[cellAt]at h
 |d+1,t,cs,j,u,v,hr,h,hv=>by
  unfold cellAt at h;split at h
  ·rename_i fs hu;obtain⟨f,hf,h⟩:=List.exists_of_findSome?_eq_some h;obtain⟨i,hi⟩:=AG hf;have td:fs[i]?=some f:=by simpa using hi
   rw[agR]at h;split at h
   ·rename_i hc;simp only[bu]at hc;have h1:=dJ hc.1;have h2:j<f.offset+P.cellsOf f.type:=by
     have:=hc.2;unfold cD at this;exact dJ this
    refine Jk d (cs:=(cs.drop f.offset).take (P.cellsOf f.type)) (λn=>?_) h ?_
    ·have:=hr (n+1);unfold Rd at this;rw[hu]at this;exact this.2 i f td
    ·rw[Yt (by omega),FI];rw[show f.offset+(j-f.offset)=j by omega];exact hv
   ·simp at h
  ·rename_i n0 e hu;rw[agR]at h;split at h
   ·rename_i hc;simp only[bu]at hc;have h1:j/P.cellsOf e<n0:=by
     have:=hc.1;unfold cD at this;exact dJ this
    have h2:0<P.cellsOf e:=by
     have:=hc.2;unfold cD at this;exact dJ this
    refine Jk d (cs:=(cs.drop (j/P.cellsOf e*P.cellsOf e)).take (P.cellsOf e)) (λn=>?_) h ?_
    ·have:=hr (n+1);unfold Rd at this;rw[hu]at this;exact this.2 _ h1
    ·rw[Yt (Nat.mod_lt _ h2),FI];rw[show j/P.cellsOf e*P.cellsOf e+j%P.cellsOf e=j by rw[Nat.mul_comm];exact Nat.div_add_mod _ _];exact hv
   ·simp at h
  ·rename_i hns hna;rw[agR]at h;split at h
   ·rename_i hj;obtain rfl:j=0:=cz hj;obtain rfl:t=u:=by simpa using h
    intro n;have h1:=hr n;cases n with
    |zero=>trivial
    |succ n=>
     unfold Rd at h1⊢;split at h1
     ·obtain⟨b,rfl⟩:=h1;simp at hv;subst hv;exact⟨b,rfl⟩
     ·obtain⟨k,rfl,h2⟩:=h1;simp at hv;subst hv;exact⟨k,rfl,h2⟩
     ·rcases h1 with rfl|⟨a,len,cap,rfl,h2⟩
      ·simp at hv;subst hv;exact .inl rfl
      ·simp at hv;subst hv;exact .inr ⟨a,len,cap,rfl,h2⟩
     ·rename_i fs hu;exact absurd hu (hns fs)
     ·rename_i k e hu;exact absurd hu (hna k e)
     ·trivial
   ·simp at h
theorem aeX {u:aJ} {v:ae} {k:fq} (hu:P.underlying u=some (.int k)) (h:∀n,Rd P w n u [v]):∃n,v=.int k n/\k.min<=n/\n<=k.max:=by
 have:=h 1;unfold Rd at this;rw[hu]at this;obtain⟨b,hb,h2⟩:=this;exact⟨b,by simpa using hb,h2⟩
theorem aeY {u e:aJ} {v:ae} {z:Nat} {ts:List aJ} (hu:P.underlying u=some (.slice e)) (h:∀n,Rd P w n u [v]) (hz:P.cellsOf e=z:=by kernel_rfl) (d:Nat) (ei:(bw z).map (cellAt P d e)=ts.map some:=by kernel_rfl):
 v=.slice none 0 0\/∃a len cap,v=.slice (some a) len cap/\len<=cap/\cap<=maxLen/\∃c:Nat->Nat->ae,∀i,i<cap->∀j,j<z->w.cell? (a.add (i*z+j))=some (c i j)/\∀u',ts[j]?=some u'->∀n,Rd P w n u' [c i j]:=by
 have h1:=h 1;unfold Rd at h1;rw[hu]at h1;rcases h1 with h1|⟨a,len,cap,h1,h2,h3,_⟩
 ·exact .inl (by simpa using h1)
 ·obtain rfl:v=_:=by simpa using h1
  refine .inr ⟨a,len,cap,rfl,h2,h3,?_⟩;subst hz;have key:∀i,i<cap->∃nB,w.cells? 0 (a.add (i*P.cellsOf e)) (P.cellsOf e)=some nB/\∀n,Rd P w n e nB:=by
   intro i hi;have aP:∀n,∃nB,w.cells? 0 (a.add (i*P.cellsOf e)) (P.cellsOf e)=some nB/\Rd P w n e nB:=by
    intro n;have h4:=h (n+1);unfold Rd at h4;rw[hu]at h4;rcases h4 with h4|⟨a',auJ,auK,h4,_,_,h5⟩
    ·simp at h4
    ·simp at h4;obtain⟨rfl,rfl,rfl⟩:=h4;exact h5 i hi
   obtain⟨nB,hc,_⟩:=aP 0;refine⟨nB,hc,λn=>?_⟩;obtain⟨auL,yT,hr⟩:=aP n;rw[hc]at yT;obtain rfl:nB=auL:=by simpa using yT
   exact hr
  obtain⟨C,hC⟩:=Deep.choose_lt key;refine⟨λi j=>(C i).getD j undef,λi hi j hj=>?_⟩;obtain⟨h5,h6⟩:=hC i hi;obtain⟨_,hl,nG⟩:=World.cells?_some h5;have h7:(C i)[j]?=some ((C i).getD j undef):=by
   have dL:j<(C i).length:=by omega
   simp[ir,jv dL]
  refine⟨?_,λu' Ou=>?_⟩
  ·have:=nG j hj;rw[h7]at this;have e1:(a.add (i*P.cellsOf e)).add j=a.add (i*P.cellsOf e+j):=by
    unfold vO;split<;>split<;>split<;>simp_all<;>omega
   rw[e1]at this;exact this
  ·have hjt:cellAt P d e j=some u':=by
    have h8:((bw (P.cellsOf e)).map (cellAt P d e))[j]?=some (some u'):=by rw[ei];simp[Ou]
    simp[hj]at h8;exact h8
   exact Jk d h6 hjt h7
end
end Sx
namespace Go.Proofs.YtggfpcggakghnaaGreatDoor
section
open Go Go.RowKit Go.WideShapes Sd Sx
theorem auM {W:ag} {a:Option aQ} {m c:Nat} (nG:∀n,Rd prog W n 23 [.slice a m c]) (hk:Ov W a m c):∃kb:Nat->Int,Vg [] W a m c kb:=by
 obtain⟨h1,h2⟩:=hk;rcases h2 with⟨e1,e2,e3⟩|⟨x,e1,hc,hh⟩
 ·exact⟨λ_=>0,h1,λ_=>⟨e2,e3⟩,λad ha=>by rw[e1]at ha;cases ha⟩
 ·rcases aeY Tryz.underlying23 nG (z:=1) (by kernel_rfl) 5 (ts:=[5]) (by kernel_rfl)with h0|⟨a',auJ,auK,h0,_,_,C,hC⟩
  ·rw[e1]at h0;simp at h0
  ·rw[e1]at h0;simp only[Value.slice.injEq,aY]at h0;obtain⟨rfl,rfl,rfl⟩:=h0;refine⟨λj=>match C j 0 with|.int _ n=>n|_=>0,h1,λh=>(by rw[e1]at h;cases h),λad ha=>⟨by simp,λj hj=>?_⟩⟩;rw[e1]at ha;obtain rfl:=cG ha;obtain⟨h3,h4⟩:=hC j (by omega) 0 (by omega);obtain⟨n,h5,_⟩:=aeX Tryz.underlying5 (h4 _ rfl);simp only[h5]at h3⊢;simpa using h3
theorem auN {W:ag} {v:ae} (hv:AS prog W .any 0 28 v) (hr:∀n,Rd prog W n 28 v.cells.toList):
 ∃(q:Nat->Int) (ka:Nat->Option aQ) (kn kc:Nat->Nat) (kb:Nat->Nat->Int),v=.agg (B_ q ka kn kc)/\(∀i,-9223372036854775808<=q i/\q i<=9223372036854775807)/\∀i,i<4->Vg [] W (ka i) (kn i) (kc i) (kb i):=by
 obtain⟨q,ka,kn,kc,rfl,hq,hk⟩:=auI hv;have key:∀i,i<4->∃kb:Nat->Int,Vg [] W (ka i) (kn i) (kc i) kb:=by
  intro i hi;have nG:∀n,Rd prog W n 23 [.slice (ka i) (kn i) (kc i)]:=by
   have h5:(B_ q ka kn kc)[5+i]?=some (.slice (ka i) (kn i) (kc i)):=by
    match i,hi with
    |0,_=>rfl
    |1,_=>rfl
    |2,_=>rfl
    |3,_=>rfl
    |i+4,h=>exact absurd h (by omega)
   have pZ:cellAt prog 6 28 (5+i)=some 23:=by
    have e:i=0\/i=1\/i=2\/i=3:=by omega
    rcases e with rfl|rfl|rfl|rfl
    ·show cellAt prog 6 28 5=some 23;kernel_rfl
    ·show cellAt prog 6 28 6=some 23;kernel_rfl
    ·show cellAt prog 6 28 7=some 23;kernel_rfl
    ·show cellAt prog 6 28 8=some 23;kernel_rfl
   exact Jk 6 (P:=prog) (w:=W) (t:=28) (cs:=(B_ q ka kn kc).toList) (j:=5+i) hr pZ (by simpa using h5)
  exact auM nG (hk i hi)
 obtain⟨kb,hkb⟩:=Deep.choose_lt key;exact⟨q,ka,kn,kc,kb,rfl,hq,hkb⟩
end
section
open Go Go.RowKit Go.BigFrame Go.WideShapes Go.ChangeShapes Sd Sx Vx
section
variable{H:Type} {enc:aJ×ae->H} {P:aL} {w:ag} {base:Nat} {spare:Nat->Bool} {held:Bool} {fuel:Nat} {t e:aJ} {cs:List ae} {ps:List MemPlace}
theorem auO {zs:List Bool} (ht:P.underlying t=some (.array zs.length e)) (he:P.underlying e=some .bool) (hc:P.cellsOf e=1) (hn:P.cellsOf t=zs.length)
 (h:PD enc P w base spare held fuel t cs=some (.agg (zs.map λz=>.lit (.bool z)),ps)):cs=zs.map Dc:=by
 obtain⟨xs,m,rfl,hx,hlen,wa,nx⟩:=DataW.trod_array ht h;simp only[bC,DataW.agg.injEq]at hx;rw[hn]at hlen;apply vR;intro i;by_cases hi:i<zs.length
 ·have h1:=nx i hi;rw[hc,Nat.mul_one,jv (by omega)]at h1;obtain⟨z,e1,e2⟩:=DataW.trod_bool he h1;have h3:(zs.map λz=>(DataW.lit (.bool z):DataW H))[i]?=(xs.map (·.1))[i]?:=by rw[hx.1]
  rw[jt,jt,jv hi,jv (by omega),mz,mz]at h3;have e3:=congrArg Prod.fst e2;rw[e3]at h3;simp at h3;rw[aeM e1,jt,jv hi,mz,h3]
 ·rw[jc (by omega),jc (by simp;omega)]
end
def Ow:List Bool:=[false,false,false,false,false,false,false,false,false,false,true,true]
theorem aeZ {W:ag} (h:laidMetH prog On W):∃t,W.heap[0]?=some (.cells #[.bool false,.bool false,.bool false,.bool false,.bool false,.bool false,.bool false,.bool false,.bool false,.bool false,.bool true,.bool true] t (0,0)):=by
 rw[MakeChecks.laidMetH_plain _ _ _ (by kernel_rfl)]at h;obtain⟨ps,⟨g0,t0,Oo,f0,p0,q0,hg0,Fg,sO,hd0,⟨g1,t1,Oq,f1,p1,q1,N0,Ot,uG,E1,_,hq⟩,qk⟩,_,nG⟩:=h;obtain rfl:g0=0:=cG (hg0.symm.trans (show prog.globalNamed "sidestick/gate.commands" =some 0 by kernel_rfl));have e1:(prog.globals[0]?).map (·.type)=some 269:=by kernel_rfl
 obtain rfl:t0=269:=cG (Fg.symm.trans e1);have oW:Oo.toList=Ow.map Dc:=by
  have zF:PD (λ_=>()) prog W 0 (λ_=>true) false f0 269 Oo.toList=some (.agg (Ow.map λz=>.lit (.bool z)),p0):=
   hd0.trans (congrArg (λd=>some (d,p0)) (show(Rows.laid_sidestick_gate_commands:DataW Unit)=.agg (Ow.map λz=>.lit (.bool z)) by kernel_rfl))
  exact auO (zs:=Ow) (e:=4) (by kernel_rfl) (by kernel_rfl) (by kernel_rfl) (by kernel_rfl) zF
 obtain⟨t,f,aP⟩:=aeN (show prog.globalNamed "sidestick/gate.commands" =some 0 by kernel_rfl) sO;have Dv:Oo=#[.bool false,.bool false,.bool false,.bool false,.bool false,.bool false,.bool false,.bool false,.bool false,.bool false,.bool true,.bool true]:=by
  apply fM;rw[oW];rfl
 obtain⟨c,t',xZ⟩:=(nG 0 0 (by
  rw[qk,Dv];have:MemPlace.cell 0 0∈Yz ⟨0,0,none⟩ 12:=by
   simp[Yz]
  exact pJ _ (pJ _ this))).1
 rw[aP]at xZ;simp only[aY,Obj.cells.injEq]at xZ;refine⟨t,?_⟩;rw[aP,Dv,xZ.2.2]
theorem auP {W:ag} {v:ae} (h:∀n,Rd prog W n 23 [v]):∃a n c,v=.slice a n c/\kE W a n c (fb W a):=by
 rcases aeY Tryz.underlying23 h (z:=1) (by kernel_rfl) 5 (ts:=[5]) (by kernel_rfl)with rfl|⟨a,len,cap,rfl,hle,_,C,hC⟩
 ·exact⟨none,0,0,rfl,dH _,λ_=>⟨rfl,rfl⟩,λx e=>nomatch e⟩
 ·have hb:∀j,j<len->∃n,C j 0=.int .u8 n/\0<=n/\n<=255:=λj hj=>by
   obtain⟨n,h5,h6⟩:=aeX Tryz.underlying5 ((hC j (by omega) 0 (by omega)).2 _ rfl);exact⟨n,h5,by simpa[IntKind.min,IntKind.max,uA,uz]using h6⟩
  refine⟨some a,len,cap,rfl,atN (f:=λj=>match C j 0 with|.int _ n=>n|_=>0) ⟨hle,(λe=>nomatch e),λx e j hj=>?_⟩ λj hj=>?_⟩
  ·obtain rfl:=cG e;obtain⟨n,h5,_⟩:=hb j hj;have h3:=(hC j (by omega) 0 (by omega)).1;simp only[h5]at h3⊢;simpa using h3
  ·obtain⟨n,h5,h6⟩:=hb j hj;simp only[h5];exact h6
theorem ae0 {W:ag} {v:ae} (hv:AS prog W .any 0 28 v) (hr:∀n,Rd prog W n 28 v.cells.toList):
 ∃(q:Nat->Int) (ka:Nat->Option aQ) (kn kc:Nat->Nat),v=.agg (oV ⟨q,λ_=>(0,λ_=>0)⟩ ka kn kc).toArray/\∀j,j<4->kE W (ka j) (kn j) (kc j) (fb W (ka j)):=by
 obtain⟨q,ka,kn,kc,kb,rfl,hq,hk⟩:=auN hv hr;refine⟨q,ka,kn,kc,rfl,λj hj=>?_⟩;have nG:∀n,Rd prog W n 23 [.slice (ka j) (kn j) (kc j)]:=by
  have h5:(B_ q ka kn kc)[5+j]?=some (.slice (ka j) (kn j) (kc j)):=by
   match j,hj with
   |0,_=>rfl
   |1,_=>rfl
   |2,_=>rfl
   |3,_=>rfl
   |j+4,h=>exact absurd h (by omega)
  have pZ:cellAt prog 6 28 (5+j)=some 23:=by
   have e:j=0\/j=1\/j=2\/j=3:=by omega
   rcases e with rfl|rfl|rfl|rfl
   ·show cellAt prog 6 28 5=some 23;kernel_rfl
   ·show cellAt prog 6 28 6=some 23;kernel_rfl
   ·show cellAt prog 6 28 7=some 23;kernel_rfl
   ·show cellAt prog 6 28 8=some 23;kernel_rfl
  exact Jk 6 (P:=prog) (w:=W) (t:=28) (cs:=(B_ q ka kn kc).toList) (j:=5+j) hr pZ (by simpa using h5)
 obtain⟨a,n,c,e,h⟩:=auP nG;simp only[Value.slice.injEq]at e;obtain⟨rfl,rfl,rfl⟩:=e;exact h
end
section
open Go Go.RowKit Go.BigFrame Sx Vx
variable{fr:Sd.aF->Nat×Sd.ao}
section
variable{G:Type} [Bl G]
theorem ae1 {C:Ctx G} {f n:Nat} {ids:List Nat} {bl:List VB} {ch0 rest:List G} {R:List aj} {ms:List Nat} {w0 w:ag} (hT:∀f c,C.T f=some c->Sound C.P C.gl f c) (hQ:ql C) (hl:ids.length=bl.length) (S:St ms w0 (lits ids ids bl++aC (ch0++rest) R) w)
 (is:List Nat) (hn:is.Nodup) (hg:Gl C.gl (is.map λi=>ids.getD i 0)) (bs:List VB) (hb:is.map (bl[·]?)=bs.map some) (hw:bM 0 bs=true) {args args':List V} (cV:aH ids args=aH (is.map λi=>ids.getD i 0) args') {v0:V} (sO:cR 0 v0=true)
 (cS:br C n f args' bs ch0 (bA bs.length λv b c=>v=v0/\b.take bs.length=bs/\∃c2,c=ch0++c2)):aV C.P f (aH ids args).toArray w λv w'=>v=den [] v0/\St ms w0 (lits ids ids bl++aC (ch0++rest) R) w':=by
 have hlen:is.length=bs.length:=by have:=congrArg List.length hb;simpa using this
 have rp:∀(k i:Nat),is[k]?=some i->∃b,bs[k]?=some b/\bl[i]?=some b:=by
  intro k i hk;have:=congrArg (λl=>l[k]?) hb;simp only[jt,hk,mz]at this;cases Jl:bs[k]?with
  |none=>rw[Jl]at this;simp at this
  |some b=>rw[Jl]at this;simp only[mz,aY]at this;exact⟨b,rfl,this⟩
 have dL:∀i∈is,i<bl.length:=by
  intro i hi;obtain⟨k,hk⟩:=AG hi;obtain⟨b,_,h2⟩:=rp k i hk;exact iZ h2
 obtain⟨r,hr,hp⟩:=zW (bl:=bl) (ids:=ids) hl hn dL;have gE:=hp bl rfl;have DJ:∀(CP:List Nat),(is.map λj=>aD ids (ids.getD j 0) (bl.getD j dk))=lits CP (is.map λi=>ids.getD i 0) bs:=by
  intro CP;clear hr hp gE cV cS dL hg;induction is generalizing bs with
  |nil=>simp[lits]
  |cons i is ih=>
   cases bs with
   |nil=>simp at hlen
   |cons b bs=>
    simp only[eF,List.cons.injEq]at hb;simp only[bM,bu]at hw;simp only[eF,lits,iY hb.1];rw[nC (ids':=CP) hw.1,ih (ri.1 hn).2 bs hb.2 hw.2 (by simpa using hlen) (λk i hk=>rp (k+1) i (by simpa using hk))]
 rw[DJ (is.map λi=>ids.getD i 0)]at gE;have S1:St ms w0 (lits (is.map λi=>ids.getD i 0) (is.map λi=>ids.getD i 0) bs++aC ch0 ((r.map λj=>aD ids (ids.getD j 0) (bl.getD j dk))++aC rest R)) w:=by
  refine S.perm ((gE.append_right _).trans ?_);rw[nt,iX (aC rest R) ch0,iX ((r.map λj=>aD ids (ids.getD j 0) (bl.getD j dk))++aC rest R) ch0];exact ij λf=>by simp only[iI];omega
 rw[cV];refine(eO hT hQ n hg (by simpa using hlen) S1 cS).mono ?_;rintro v w' ⟨x,Jm,bl0,ch',rfl,tv,S0,hK⟩;obtain⟨v2,more,bl',hv,mS,S2,rfl,WA,c2,rfl⟩:=iB (n0:=bs.length) tv (by simp[hlen]) S0 hK;have NF:((is.map λi=>ids.getD i 0)++Jm).take bs.length=is.map λi=>ids.getD i 0:=by rw[<-hlen];have:=List.take_left (l₁:=is.map λi=>ids.getD i 0) (l₂:=Jm);simpa using this
 rw[NF]at hv mS S2;refine⟨by rw[hv];have:=gf (ids:=[]) (more:=(is.map λi=>ids.getD i 0)++more) v2 sO;simpa using this,?_⟩;have oE:bl'=bs++bl'.drop bs.length:=by have:=jS bs.length bl';rw[WA]at this;exact this.symm
 rw[oE,fC _ _ _ _ (by simpa using hlen),Ae (ids':=is.map λi=>ids.getD i 0) (is.map λi=>ids.getD i 0) bs hw]at S2;rw[nt,iX _ ch0,iX _ c2]at S2;have S3:St ms w0 (lits (is.map λi=>ids.getD i 0) (is.map λi=>ids.getD i 0) bs++(aC ch0 []++((r.map λj=>aD ids (ids.getD j 0) (bl.getD j dk))++aC rest R))) w':=by
  refine S2.sub ?_;rw[bU];refine uv ?_ _;refine agQ ?_ (mA _ _);exact uv (mA _ _) _
 refine S3.perm (Dg ?_ (gE.symm.append_right _));rw[nt,iX (aC rest R) ch0];exact ij λf=>by simp only[iI];omega
end
theorem auQ {G:Type} [Bl G] {C:Ctx Empty} {f n:Nat} {ids:List Nat} {bl:List VB} {ch:List G} {R:List aj} {ms:List Nat} {w0 w:ag} (hT:∀f c,C.T f=some c->Sound C.P C.gl f c) (hQ:ql C) (hg:C.gl=de) (hl:ids.length=bl.length) (S:St ms w0 (lits ids ids bl++aC ch R) w)
 (is:List Nat) (hn:is.Nodup) (bs:List VB) (hb:is.map (bl[·]?)=bs.map some) (hw:bM 0 bs=true) {args args':List V} (cV:aH ids args=aH (is.map λi=>ids.getD i 0) args') {v0:V} (sO:cR 0 v0=true)
 (cS:br C n f args' bs [] (bA bs.length λv b c=>v=v0/\b.take bs.length=bs/\∃c2,c=[]++c2)):aV C.P f (aH ids args).toArray w λv w'=>v=den [] v0/\St ms w0 (lits ids ids bl++aC ch R) w':=
 ae1 (G:=Empty) (ch0:=[]) (rest:=[]) (R:=aC ch R) hT hQ hl S is hn (λg i h=>by rw[hg]at h;cases h) bs hb hw cV sO cS
theorem auR (C:Sd.aK) (p:Sd.aO) {m:Sd.a9} (hm:C.take 2 (f2 1 1)=some m) (hr:m.role=1) (ht:Sd.jf p 1 1=true):∃r e,(fF C (gQ p) 1 0 2 (f2 1 1)).bg=[(1,r)]/\(fF C (gQ p) 1 0 2 (f2 1 1)).bH=[⟨2,1,0,e,0,0⟩]/\(fF C (gQ p) 1 0 2 (f2 1 1)).c.t.aG=4/\(fF C (gQ p) 1 0 2 (f2 1 1)).c.p=p:=by
 have e:fF C (gQ p) 1 0 2 (f2 1 1)=(gQ p).lC C 1 2 (f2 1 1):=rfl;rw[e];unfold Sd.aa.lC;rw[hm];dsimp only;have ht':Sd.jf (gQ p).c.p 1 m.role=true:=by rw[hr];exact ht
 rw[if_neg (by rw[ht'];simp),if_neg (by show¬(4294967295:Int)<=0;decide)];exact⟨_,_,rfl,rfl,rfl,rfl⟩
theorem auS:∃m,ay 2 (f2 1 1)=some m/\m.role=1:=⟨_,rfl,rfl⟩
def WB:dc (LG fr):=λargs bl ch K=>match args,ch,bl with
 |[],.a_ u::rest,⟨w0,⟨tg,(0,0)⟩,c0⟩::⟨w1,⟨tc,(0,0)⟩,c1⟩::bl2=>(w0=false/\c0=(j5 tg).c/\w1=false/\c1=(nK tc).c)/\K (.bool true) (⟨w0,⟨tg,(0,0)⟩,c0⟩::⟨w1,⟨tc,(0,0)⟩,c1⟩::bl2) (.a_ u::rest)
 |_,_,_=>False
theorem Ox (u:ag) (f:Nat->Int):kE u none 0 0 f:=⟨dH _,λ_=>⟨rfl,rfl⟩,λx e=>nomatch e⟩
theorem Jn {tg tc it:Nat} {k:LK} {s:Sd.aa} (h1:k.tg=tg) (h2:k.tc=tc) (h3:s.c.p.queue=k.most):vF tg tc it k s:=by
 subst h1 h2;exact⟨rfl,rfl,rfl,rfl,rfl,h3⟩
theorem auT {tg tc:Nat} {u:ag} {K:VK (LG fr)} (hK:∀(g:Gh fr) (fB:List aj),K (.bool true) [j5 tg,nK tc] [.a_ u,.core g fB]):shX (aq ay) tg tc u K:=by
 refine⟨⟨Ox _ _,Ox _ _,Ox _ _,Ox _ _⟩,λp n d hM=>?_⟩;have hn:∀j,j<4->1<=n j/\n j<=64:=λj hj=>by rw[hM.n j];exact aeq _
 obtain⟨h1,h2⟩:=auB (m:=2) (d:=d) hM.I hM.o hn;have Us:Jb (gw 2 p n d) (n4 n):=⟨h1.code,λj hj=>by
  rw[<-h1.n j hj]
  match j,hj with
  |0,_=>rfl
  |1,_=>rfl
  |2,_=>rfl
  |3,_=>rfl
  |j+4,h=>exact absurd h (by omega),h1.k⟩
 refine⟨Us,λp2 k F hN v1 v2=>?_⟩;have hC:=aeJ hN (h2 _) (λj hj=>by rw[Ah _ _ _ _ hj];exact hn j hj);refine⟨Jn hN.tg hN.tc hN.most.symm,⟨rfl,rfl,rfl⟩,hN.kR,⟨by rw[ph];exact hC,v1,v2,by decide,λj=>by unfold f2;split<;>decide⟩,?_⟩;rintro s' hs r fn F0 w1 w2 NY;rw[ph]at hs;obtain⟨m,hm,hr⟩:=auS;have hp:p2.i 10=2:=by
  rw[hN.eq];show iN (nth (gw 2 p n d) 10)=2;rw[Jf 2 p n d (by decide) rfl,hM.p 10 (by decide) rfl];show bits .and .i64 2 14=2;decide
 have ht:Sd.jf p2 1 1=true:=by
  unfold Sd.jf Sd.aO.A9;have:p2.i (9+Int.toNat 1)=2:=hp;rw[this];decide
 obtain⟨x,e,q1,q2,q3,hpq⟩:=auR (aq ay) p2 hm hr ht;rw[<-hs]at q1 q2 q3 hpq;have l1:s'.bg.length=1:=by rw[q1];rfl
 have l2:s'.bH.length=1:=by rw[q2];rfl
 have l3:(s'.bg.getD 0 default).1=1:=by rw[q1];rfl
 have l4:(s'.bH.getD 0 default).kind=2:=by rw[q2];rfl
 unfold shE;refine aM (λ_=>⟨⟨by decide,by omega⟩,⟨by omega,λj=>rfl⟩,?_⟩) (λh=>absurd h (by simp[l1]));refine aM (λ_=>?_) (λh=>absurd h (by rw[l3];decide));refine aM (λ_=>⟨⟨by decide,by omega⟩,⟨by omega,λj=>rfl⟩,?_⟩) (λh=>absurd h (by simp[l2]));refine aM (λ_=>?_) (λh=>absurd h (by rw[l4];decide));refine⟨Jn hN.tg hN.tc (by show s'.c.p.queue=k.most;rw[hpq];exact hN.most.symm),λx c ty us=>?_⟩;have:((cd s').c.t.aG==4)=true:=by show(s'.c.t.aG==4)=true;rw[q3];rfl
 rw[this];exact hK _ _
theorem auU (ht:Body (fr:=fr) 147 dY):Sound prog gS 9 (WB (fr:=fr)):=by
 intro args ids bl ch R ms w0 w K hg hl S hc;unfold WB at hc;split at hc
 ·rename_i u rest Jd tg c0 Je tc c1 bl2;obtain⟨⟨rfl,rfl,rfl,rfl⟩,hK⟩:=hc;have FX:Gl gS ([0,1].map λi=>ids.getD i 0):=by
   intro g i dN;unfold gS at dN;split at dN
   ·obtain rfl:=cG dN;exact⟨by simp,(hg 1 0 rfl).2⟩
   ·obtain rfl:=cG dN;exact⟨by simp,(hg 0 1 rfl).2⟩
   ·cases dN
  have cS:br (bZ prog gS (Ol fr (aq ay))) 60 9 [] [j5 tg,nK tc] [.a_ u] (bA 2 λv b c=>v=.bool true/\b.take 2=[j5 tg,nK tc]/\∃c2,c=[.a_ u]++c2):=by
   rw[auD];exact auT λg fB=>⟨rfl,rfl,_,rfl⟩
  refine(ae1 (C:=bZ prog gS (Ol fr (aq ay))) (aeL ht).T (aeL ht).Q hl (ch0:=[.a_ u]) (rest:=rest) S [0,1] (by decide) FX [j5 tg,nK tc] rfl rfl (args:=[]) (args':=[]) rfl rfl cS).mono ?_;rintro v w' ⟨rfl,S2⟩;exact⟨.bool true,[],_,_,rfl,by simpa using hl,by simpa using S2,hK⟩
 ·exact hc.elim
def Oy (P:aL):(bh->V)->Op->List VB->List (LG fr)->VK (LG fr)->Prop:=λe op bl ch K=>match op with
 |.buildSlice t 0 ps=>(match ps.toList,P.underlying t with
  |[],some (.slice T)=>(match eS P T,nq P T with
   |some (z+1),some zc=>cond (az (ck zc) (z+1)) (∀r:bm,r.T=T->r.z=z+1->r.os=[]->r.n=0->K r.v bl (ch++[.row r])) False
   |_,_=>False)
  |_,_=>False)
 |.call c=>(match c.callee,c.args.toList,c.argTypes.toList with
  |.builtin .append,[s,xs],[t,tx]=>(match P.underlying t,P.underlying tx with
   |some (.slice T),some (.slice _)=>(match tF P T,e xs,ch with
    |some (z,bx),.gp i 0 m cc x,.a_ u::.core g fB::.row r::rest=>(match bl[i]?with
     |some ⟨_,_,[.fP z' m' f,.rest _]⟩=>cond (az z z'&&bG bx 10000000)
      ((e s=r.v/\r.T=T/\r.z=z/\m'=m/\(∀j,(f j).length=z)/\(∀j u,u∈f j->u.oneCell'=true)/\r.n+m<=1000000)/\
        ∀r2:bm,r2.T=r.T->r2.z=r.z->r2.os=r.os++(bw m).flatMap f->r2.n=r.n+m->K r2.v bl (.a_ u::.core g fB::.row r2::rest)) False
     |_=>False)
    |_,_,_=>False)
   |_,_=>False)
  |_,_,_=>False)
 |_=>False
theorem ae2 {z:Nat} {f:Nat->List ae} (h:∀j,(f j).length=z):∀m,((bw m).flatMap f).length=m*z
 |0=>by simp
 |m+1=>by rw[Dd,FH,ft,ae2 h m];simp[h,ng]
theorem Oz (u:ag) (g:Gh fr) (fB:List aj) (r:bm) (rest:List (LG fr)) (R:List aj):aC (LG.a_ u::LG.core g fB::LG.row r::rest) R=(dR u++(g.F.B++fB))++(r.bl++aC rest R):=by
 show dR u++((g.F.B++fB)++(r.bl++aC rest R))=_;simp only[bU]
theorem ae3 {P:aL} {gl:Nat->Option Nat}:gv P gl (Oy (fr:=fr) P):=by
 intro e op ids bl ch R ms w0 w K ρ o hg hl S ba ho h;unfold Oy at h;split at h
 ·rename_i t ps;split at h
  ·rename_i T qk hu;split at h
   ·rename_i z zc hz QI;cases hq:az (ck zc) (z+1)with
    |false=>rw[hq]at h;exact h.elim
    |true=>
     rw[hq]at h;simp only[cond_true]at h;have bQ:=Zu (P:=P) (ids:=ids) (w:=w) (len:=0) (ps:=[]) (c:=[]) hu hz QI (cz hq) (by simp) rfl
     let r:bm:=⟨T,z+1,[],some ⟨w.heap.size,0,none⟩,0,0,[⟨w.heap.size,true,.cells #[] T (0,0)⟩],by simp,dH _,.inr ⟨w.heap.size,[],rfl,rfl,by simp⟩⟩
     have hn:=S.new (Ch.alloc [] w (.cells #[] T)) (dH _) (nT w _);refine⟨r.v,[],bl,ch++[.row r],w.alloc (.cells #[] T),.inl ?_,by simpa using hl,?_,h r rfl rfl rfl rfl⟩
     ·unfold execOp;have hp0:ps=#[]:=by apply fM;simpa using qk
      subst hp0;simp only[ho];rw[bE];have h2:(Yp t 0 #[]).run P w=.ok (.slice (some ⟨w.heap.size,0,none⟩) 0 0) (w.alloc (.cells #[] T)):=bQ;have h3:((#[]:Array (Nat×bh)).map λ(x:Nat×bh)=>match x with|(i,x)=>(i,ρ x))=#[]:=by simp
      rw[h3,h2];rfl
     ·rw[cH,nt];have e2:aC [LG.row (fr:=fr) r] R=⟨w.heap.size,true,.cells #[] T (0,0)⟩::R:=rfl;rw[e2,iX (_::R) ch];rw[iX R ch]at hn;refine hn.perm ?_;exact ij λf=>by simp only[iI,AP];omega
   ·exact h.elim
  ·exact h.elim
 ·rename_i c;split at h
  ·rename_i s xs t tx fl cV ei;split at h
   ·rename_i T T' ht gG;split at h
    ·rename_i z bx i m cc x u g fB r rest cu gn;split at h
     ·rename_i wr ty z' m' f us hb;cases hq:az z z'&&bG bx 10000000 with
      |false=>rw[hq]at h;exact h.elim
      |true=>
       rw[hq]at h;simp only[cond_true]at h;simp only[bu]at hq;obtain⟨q1,q4⟩:=hq;obtain rfl:=cz q1;have q4:=dJ q4;obtain⟨⟨hs,rfl,rfl,rfl,hf,ho1,hn⟩,hK⟩:=h;have hi:(P.info? r.T).map (λi=>(i.zero.map (·.cells.size),i.size,i.bytes))=some (some r.z,r.z,bx):=by
        unfold tF at cu;split at cu
        ·rename_i inf tH;split at cu
         ·rename_i v hv;cases qm:az v.cells.size inf.size with
          |false=>rw[qm]at cu;simp at cu
          |true=>
           rw[qm]at cu;simp only[cond_true,aY,bC]at cu;have:=cz qm;simp[tH,hv,this,cu.1,cu.2]
         ·cases cu
        ·cases cu
       have aP:=(fV hl S hb).2;have hlen:=ae2 hf m';have wI:∀u∈(bw m').flatMap f,u.oneCell'=true:=λu hu=>by
        obtain⟨j,_,hj⟩:=List.mem_flatMap.1 hu;exact ho1 j u hj
       have gd:Src P r.z tx (.slice (bif az m' 0 then x else some ⟨ids.getD i 0,0,none⟩) m' cc) m' ((bw m').flatMap f) w:=by
        by_cases h0:m'=0
        ·subst h0;cases x with
         |none=>exact Src.ofNil w gG cc
         |some a=>exact sW w gG a 0 cc [] (by simp) (λj u hj=>by simp at hj) (λu hu=>by simp at hu)
        ·have wu:az m' 0=false:=by
          cases wu:az m' 0 with
          |false=>rfl
          |true=>exact absurd (cz wu) h0
         rw[wu];refine sW w gG ⟨ids.getD i 0,0,none⟩ m' cc _ hlen (λj u hj=>?_) wI;rw[iS,cell_of aP];simp only[ai,cl,cH];have hjl:j<((bw m').flatMap f).length:=by
          rcases cZ j ((bw m').flatMap f).length with h|h
          ·exact h
          ·rw[jc h]at hj;cases hj
         rw[jQ,eY,iq hjl];exact hj
       have e1:lits ids ids bl++aC (LG.a_ u::LG.core g fB::LG.row r::rest) R=(lits ids ids bl++(dR u++(g.F.B++fB)))++(r.bl++aC rest R):=by
        simp only[Oz,bU]
       rw[e1]at S;have mM:(r.n+m')*bx<=140737488355328:=hY (Nat.mul_le_mul hn q4) (by decide);obtain⟨v,w',bQ,hc,x',c',bl',rfl,fZ,nu⟩:=Dq (P:=P) (ty:=o.type) r.h (λy hy=>S.at' (by simp[hy])) bx gd ht hi mM (hY hn (by decide));have S2:=S.uE r.h.wr hc (λy hy=>(nu y hy).1) (λy hy=>(nu y hy).2) fZ.pw;refine⟨_,[],bl,_,w',.inl ?_,by simpa using hl,?_,hK ⟨r.T,r.z,_,x',r.n+m',c',bl',fZ⟩ rfl rfl rfl rfl⟩
       ·obtain⟨oe,ar,iO⟩:=c;simp only at fl cV ei;have e2:ar=#[s,xs]:=by rw[<-cV]
        have e3:iO=#[t,tx]:=by rw[<-ei]
        subst fl e2 e3;have:=j_ (P:=P) (ρ:=ρ) (o:=o) ho (sv:=.slice r.x r.n r.c) (xv:=.slice (bif az m' 0 then x else some ⟨ids.getD i 0,0,none⟩) m' cc) (by rw[ba,hs];simp only[bm.v,den]) (by rw[ba,gn];simp only[den]) bQ;simpa[den,bm.v]using this
       ·rw[cH];have e4:lits ids ids bl++aC (LG.a_ u::LG.core g fB::LG.row ⟨r.T,r.z,r.os++(bw m').flatMap f,x',r.n+m',c',bl',fZ⟩::rest) R=(lits ids ids bl++(dR u++(g.F.B++fB)))++(bl'++aC rest R):=by
         simp only[Oz,bU]
        rw[e4];exact S2
     ·exact h.elim
    ·exact h.elim
   ·exact h.elim
  ·exact h.elim
 ·exact h.elim
structure SiD where
 h:Int
 e:Int
 o:Int
 m:Int
 mb:Sd.Label
 pt:Sd.e_
 b0:Bool
 b1:Bool
 b2:Bool
 b3:Bool
 b4:Bool
 r0:Int
 r1:Int
 r2:Int
 r3:Int
 r4:Int
 bad:Bool
section
variable(x:SiD) (n c c':Nat) (y y':Option aQ) (q:Nat->Int) (a b:Bool) (ty ty':BT) (u u':List ae) (K:VK Empty)
end
def Jo:dc (LG fr):=λargs bl ch K=>match args,ch with
 |[.ptr ic 0],.a_ u::.core g fB::rest=>(match bl[ic]?with
  |some ⟨true,⟨105,(0,0)⟩,cc⟩=>(match Ce cc with
   |some x=>(match bl[x.it]?with
    |some ⟨true,⟨157,(0,0)⟩,tc⟩=>(match sw tc with
     |some y=>cond (bM bl.length bl&&(cD 1 ic&&(cD 1 x.it&&!(az ic x.it))))
      ((bl[0]?=some (cw g.d.k)/\bl[1]?=some (iQ g.d.k)/\x=mg g.d.k x.it (fG x y g.d g.dx g.sx)/\y.b=x.p.bV/\y.m=x.p.fj/\x.p.queue=g.d.k.most)/\
        ∀(z:Option aQ) (c ty:Nat) (us:List ae),K (hU bl.length (.agg (ua (fG x y g.d g.dx g.sx) (.gp 0 0 g.d.q.length c z)))) (bl++[Af ty 1 g.d.q.length (uf g.d.q) us]) (.a_ u::.core g fB::rest)) False
     |none=>False)
    |_=>False)
   |none=>False)
  |_=>False)
 |_,_=>False
theorem ae5 {bl:List VB} {i:Nat} {b:VB} (h:bl[i]?=some b):bl.set i b=bl:=by
 apply vR;intro j;rw[List.getElem?_set];split
 ·rename_i hj;subst hj;rw[h];simp[iZ h]
 ·rfl
theorem auV:ia (Jo (fr:=fr)):=by
 intro args bl ch K hc;unfold Jo at hc⊢;split at hc
 ·split at hc
  ·split at hc
   ·split at hc
    ·split at hc
     ·rename_i y hy;revert hc;cases bM bl.length bl&&_ with
      |false=>exact λh=>h.elim
      |true=>exact λhc=>⟨hc.1,λz c ty us=>⟨hc.2 z c ty us,_,rfl⟩⟩
     ·exact hc.elim
    ·exact hc.elim
   ·exact hc.elim
  ·exact hc.elim
 ·exact hc.elim
end
section
open Go Go.RowKit Go.BigFrame Sx Vx
def u8V:V->Int
 |.int .u8 n=>n
 |_=>0
def CQ:List V->Nat
 |.int .u8 _::l=>CQ l+1
 |_=>0
def mr (l:List V) (o:Nat):Nat->Int:=λj=>u8V (nth l (o+j))
theorem WC (ids:List Nat):∀(l:List V) (j:Nat),j<CQ l->(ai ids l)[j]?=some (.int .u8 (u8V (nth l j)))
 |[],j,h=>absurd h (Nat.not_lt_zero _)
 |v::l,j,h=>by
  unfold CQ at h;split at h
  ·rename_i n l' e;cases e;cases j with
   |zero=>simp only[ai,cl,den,nth,fe,fi];rfl
   |succ j=>
    simp only[ai,cl,den,nth,fe,fi,List.getElem?_cons_succ];exact WC ids l j (by omega)
  ·exact absurd h (Nat.not_lt_zero _)
section
variable{G:Type} [Bl G]
def Fh (P:aL):(bh->V)->Op->List VB->List G->VK G->Prop:=λe op bl ch K=>match op with
 |.call c=>(match c.callee,c.args.toList,c.argTypes.toList with
  |.builtin .append,[s,xs],[t,tx]=>(match P.underlying t,P.underlying tx with
   |some (.slice 5),some (.slice _)=>(match e s,e xs with
    |.sl i 0 0 0,.sl j o m c=>(match bl[j]?with
     |some b=>cond (bM bl.length bl&&bG (o+m) (CQ b.c)) ((0<m/\m<=c/\m<=1000000)/\∀d:Nat,K (.sl bl.length 0 m (m+d)) (bl++[dF m d (mr b.c o)]) ch) False
     |none=>False)
    |_,_=>False)
   |_,_=>False)
  |_,_,_=>False)
 |_=>False
theorem OB {gl:Nat->Option Nat}:gv (G:=G) prog gl (Fh prog):=by
 intro e op ids bl ch R ms w0 w K ρ o hg hl S ba ho h;unfold Fh at h;split at h
 ·rename_i c;split at h
  ·rename_i s xs t tx fl cV ei;split at h
   ·rename_i T ht gG;split at h
    ·rename_i i j q m c' gV gn;split at h
     ·rename_i b hb;cases hq:bM bl.length bl&&bG (q+m) (CQ b.c)with
      |false=>rw[hq]at h;exact h.elim
      |true=>
       rw[hq]at h;obtain⟨⟨m0,auW,hm⟩,h1⟩:=h;rw[bu]at hq;obtain⟨hq,hn⟩:=hq;have hn:=dJ hn;have aP:=(fV hl S hb).2;have hk:eJ w (some ⟨ids.getD j 0,q,none⟩) m c' (mr b.c q):=⟨hm,auW,(λe=>nomatch e),λx e k hkm=>by
        obtain rfl:=cG e;rw[iS,cell_of aP,jQ];exact WC ids b.c (q+k) (by omega)⟩
       have gd:=Qb (P:=prog) hk gG;obtain⟨oe,ar,iO⟩:=c;simp only at fl cV ei;have e2:ar=#[s,xs]:=by rw[<-cV]
       have e3:iO=#[t,tx]:=by rw[<-ei]
       subst fl e2 e3;have iT:ρ s=.slice (some ⟨ids.getD i 0,0,none⟩) 0 0:=by rw[ba,gV];simp only[den]
       have rU:ρ xs=.slice (some ⟨ids.getD j 0,q,none⟩) m c':=by rw[ba,gn];simp only[den]
       obtain⟨c2,w2,bQ,cB,hle,I4⟩:=We (g:=mr b.c q) (x:=some ⟨ids.getD j 0,q,none⟩) (ty:=o.type) (t:=t) gd ht m0 (by omega) ⟨ids.getD i 0,0,none⟩;have h2:=h1 (c2-m);rw[show m+(c2-m)=c2 by omega]at h2;refine⟨_,[w.heap.size],_,_,w2,.inl ?_,by simp[hl],?_,h2⟩
       ·rw[j_ (P:=prog) (ρ:=ρ) (o:=o) ho iT rU bQ];simp only[den];rw[<-hl,kZ]
       ·have e:aD (ids++[w.heap.size]) w.heap.size (dF m (c2-m) (mr b.c q))=⟨w.heap.size,true,.cells (bI m (mr b.c q) c2) 5 (0,0)⟩:=by
         unfold aD;rw[xT,show m+(c2-m)=c2 by omega];rfl
        rw[fC _ _ _ _ hl,fD _ _ (by rw[hl];exact hq)];simp only[lits,e];refine(S.new cB (dH _) I4).perm ?_;rw[bU];exact jU.symm
     ·exact h.elim
    ·exact h.elim
   ·exact h.elim
  ·exact h.elim
 ·exact h.elim
end
def Jp (cr:(Nat->Int)->Nat->Int):QF:=⟨119,λargs bl=>match args with
 |[.sl i o n c]=>(match bl[i]?with
  |some b=>bif bG (o+n) (CQ b.c)&&bG n 1000000 then some (True,.int .u16 (cr (mr b.c o) n))else none
  |none=>none)
 |_=>none⟩
theorem auX (gl:Nat->Option Nat):(Jp jZ).Ok prog gl:=by
 intro args bl p_ v_ h hp ids w _ hm;unfold Jp at h;dsimp only at h;split at h
 ·rename_i i o n c;split at h
  ·rename_i b hb;cases hq:bG (o+n) (CQ b.c)&&bG n 1000000 with
   |false=>rw[hq]at h;cases h
   |true=>
    rw[hq]at h;simp only[cond_true,aY,bC]at h;obtain⟨rfl,rfl⟩:=h;rw[bu]at hq;have h1:=dJ hq.1;have aP:=hm.2 i _ hb;refine abP (ids.getD i 0) o n c (mr b.c o) (dJ hq.2) w ?_;intro j hj;rw[cell_of aP,jQ];exact WC ids b.c (o+j) (by omega)
  ·cases h
 ·cases h
def OC (n:Nat) (f:Nat->Int) (hi lo:Int):List Int:=[165,1,(n:Int)]++((bw n).map f++[hi,lo])
def oI (n:Nat) (f:Nat->Int) (hi lo:Int) (us:List ae):List V:=(OC n f hi lo).map (λx=>V.int .u8 x)++[.rest us]
def Ai (n:Nat) (f:Nat->Int) (hi lo:Int) (us:List ae):List VB:=[⟨false,⟨5,(0,0)⟩,oI n f hi lo us⟩]
def CR (cr:(Nat->Int)->Nat->Int) (n:Nat) (f:Nat->Int) (hi lo:Int) (us:List ae) (d:Nat) (K:VK Empty):Prop:=True/\cond (cr (mr (oI n f hi lo us) 1) (n+2)!=bits .or .u16 (u16.wrap (u16.wrap hi*2^8)) (u16.wrap lo))
 (K (.agg [.int .i64 3,.int .i64 1,.int .i64 12,.raw (.slice none 0 0)]) (Ai n f hi lo us) [])
 ((0<n/\n<=d+(n+5)-3/\n<=1000000)/\∀e:Nat,K (.agg [.int .i64 2,.int .i64 ((n+5:Nat):Int),.int .i64 0,.sl 1 0 n (n+e)]) (Ai n f hi lo us++[dF n e (mr (oI n f hi lo us) 3)]) [])
def CS (cr:(Nat->Int)->Nat->Int) (n:Nat) (f:Nat->Int) (hi lo:Int) (us:List ae) (d:Nat) (K:VK Empty):Prop:=br (fW prog de (qL Empty [Jp cr]) (Fh prog) OB) 60 48 [.sl 0 0 (n+5) (d+(n+5))] (Ai n f hi lo us) [] (bA 1 K)
section
variable(cr:(Nat->Int)->Nat->Int) (f:Nat->Int) (hi lo:Int) (us:List ae) (d:Nat) (K:VK Empty)
theorem auY:CS cr 3 f hi lo us d K=CR cr 3 f hi lo us d K:=by kernel_rfl
theorem auZ:CS cr 4 f hi lo us d K=CR cr 4 f hi lo us d K:=by kernel_rfl
theorem au0:CS cr 5 f hi lo us d K=CR cr 5 f hi lo us d K:=by kernel_rfl
theorem au1:CS cr 6 f hi lo us d K=CR cr 6 f hi lo us d K:=by kernel_rfl
theorem au2:CS cr 9 f hi lo us d K=CR cr 9 f hi lo us d K:=by kernel_rfl
end
variable{fr:Sd.aF->Nat×Sd.ao}
structure LwS (fr:Sd.aF->Nat×Sd.ao) (tg tc:aJ) (u:ag) (x:gk) (n:Nat) where
 p:Nat->Int
 m:Nat->Nat
 d:Nat->Nat
 hM:Made x p m
 p2:Sd.aO
 k:LK
 hN:Jc (gw 4 p m d) (vE x u) tg tc p2 k
 j:Nat
 hj:j<=n
 s:Sd.aa
 F:aX fr (aU k s)
 fB:List aj
 hC:eQ k s
 hp:s.c.p=p2
 v1:da=F.vs
 v2:da=F.vr
def preB (tg tc:aJ) (ops pb:VB) (ky:List VB) (rB:VB):List VB:=j5 tg::nK tc::ops::pb::(ky++[rB])
section
variable(C:Sd.aK) (tg tc:aJ) (ty:BT) (u:ag) (x:gk) (f:Nat->Nat×Sd.ao) (o n c:Nat) (a:Option aQ) (os:Nat->E_) (pre post:List ae)
end
section
variable(C:Sd.aK) (tg tc:aJ) (ty:BT) (u:ag) (x:gk) (f:Nat->Nat×Sd.ao) (o n c:Nat) (a:Option aQ) (os:Nat->E_) (pre post:List ae) (K:V->Prop)
end
end
section
open Go Go.RowKit Go.BigFrame Sx Vx
variable{fr:Sd.aF->Nat×Sd.ao}
section
variable{tg tc:aJ} {ty:BT} {u:ag} {x:gk} {f:Nat->Nat×Sd.ao} {o n c:Nat} {a:Option aQ} {os:Nat->E_} {pre post:List ae} {K:V->Prop}
theorem LwS.Jn (y:LwS fr tg tc u x n) {s:Sd.aa} (h:s.c.p=y.p2):vF tg tc 10 y.k s:=Go.Proofs.YtggfpcggakghnaaGreatDoor.Jn y.hN.tg y.hN.tc (by rw[h];exact y.hN.most.symm)
end
end
section
open Go Go.RowKit Go.BigFrame Sx Vx
def kx (w:Nat) (s:Int):List V:=(bw w).map λj=>.int .u8 (aN w (u64.wrap s) j)
def fkX (n m c:Nat) (ac cells:List V) (X:Nat->List ae->Prop):Prop:=
 (n<=c/\ck ac=c*1)/\(∀(c':Nat) (u:List ae),n+m<=c'->ck (cells++[.rest u])=c'*1->X c' u)/\(∀(c':Nat) (u:List ae),n+m<=c'->ck (cells++[.rest u])=c'*1->X c' u)
def Fj (F:Prop) (E:Nat->Nat->List V->List ae->Prop):List (Int×Int×Int×Nat)->Nat->Nat->List V->List V->List ae->Prop
 |[],n,c,ac,cells,u=>E n c cells u
 |(s,lo,hi,w)::fs,n,c,ac,cells,u=>cond (decide (s<lo)) F (cond (decide (s>hi)) F (cond (jx (u64.wrap s) (db (2^(8*w)))!=0) F
  (fkX n w c ac (cells++kx w s) λc' u'=>Fj F E fs (n+w) c' (cells++kx w s++[.rest u']) (cells++kx w s) u')))
def pC (k a b c d e:Int) (nc:Nat->Int):V:=.agg [.int .i64 k,.int .i64 a,.int .i64 b,.int .i64 c,.int .i64 d,.int .i64 e,.bS .u8 8 nc]
def yb (x:V) (K:VK Empty):Prop:=br (fW prog (λ_=>none) ([]:List (bR Empty)) (zj prog) Bx) 60 190 [x] [] [] (bA 0 K)
def m9 (k:Int) (fs:List (Int×Int×Int×Nat)) (K:VK Empty):Prop:=Fj (K (.av [.raw (.slice none 0 0),.int .i64 1]) [] []) (λn c cells u=>K (.av [.sl 0 0 n c,.int .i64 0]) [⟨true,⟨5,(0,0)⟩,cells++[.rest u]⟩] []) fs 1 1 [.int .u8 k] [.int .u8 k] []
theorem au7 (s:Int) (K:VK Empty):yb (pC 131 s 0 0 0 0 λ_=>0) K=m9 131 [(s,0,4294967295,4)] K:=by kernel_rfl
theorem au8 (a b c:Int) (K:VK Empty):yb (pC 130 0 a b c 0 λ_=>0) K=m9 130 [(a,0,3,1),(b,0,4,1),(c,0,65535,2)] K:=by kernel_rfl
theorem au9 (s c:Int) (K:VK Empty):yb (pC 132 s 0 0 0 c λ_=>0) K=m9 132 [(s,0,4294967295,4),(c,0,255,1)] K:=by kernel_rfl
theorem au_ (e:Int) (K:VK Empty):yb (pC 133 0 0 0 e 0 λ_=>0) K=m9 133 [(e,0,65535,2)] K:=by kernel_rfl
theorem ava (w e:Int) (K:VK Empty):yb (pC 134 0 0 w e 0 λ_=>0) K=m9 134 [(w,0,4,1),(e,0,65535,2)] K:=by kernel_rfl
theorem avb (w e:Int) (K:VK Empty):yb (pC 135 0 0 w e 0 λ_=>0) K=m9 135 [(w,0,4,1),(e,0,65535,2)] K:=by kernel_rfl
theorem avc (w c:Int) (K:VK Empty):yb (pC 136 0 0 w 0 c λ_=>0) K=m9 136 [(w,0,4,1),(c,0,255,1)] K:=by kernel_rfl
theorem ae7 (a b:List V):ck (a++b)=ck a+ck b:=by
 induction a with
 |nil=>simp[ck]
 |cons v a ih=>simp only[fe,ck,ih];omega
theorem avd (w:Nat) (s:Int):ck (kx w s)=w:=by
 have h:∀l:List Nat,ck (l.map λj=>V.int .u8 (aN w (u64.wrap s) j))=l.length:=by
  intro l;induction l with
  |nil=>rfl
  |cons j l ih=>simp only[eF,ck,ih,h_];show 1+_=_;omega
 unfold kx;rw[h,Ka]
theorem ae8 {F:Prop} {E:Nat->Nat->List V->List ae->Prop}:∀(fs:List (Int×Int×Int×Nat)) (n c:Nat) (ac cells:List V) (u:List ae),(∀f∈fs,f.2.1<=f.1/\f.1<=f.2.2.1/\0<=f.1/\f.1<18446744073709551616/\f.1<db (2^(8*f.2.2.2)))->n<=c->ck ac=c->n=ck cells->ck (cells++[.rest u])=c->
 (∀c' u',n+(fs.map λf=>f.2.2.2).sum<=c'->ck (cells++(fs.map λf=>kx f.2.2.2 f.1).flatten++[.rest u'])=c'->E (n+(fs.map λf=>f.2.2.2).sum) c' (cells++(fs.map λf=>kx f.2.2.2 f.1).flatten) u')->Fj F E fs n c ac cells u
 |[],n,c,ac,cells,u,_,h1,h2,h3,h4,hE=>by
  have:=hE c u (by simpa using h1) (by simpa using h4);simpa[Fj]using this
 |(s,lo,hi,w)::fs,n,c,ac,cells,u,hf,h1,h2,h3,h4,hE=>by
  obtain⟨f1,f2,f3,f5,f4⟩:=hf _ (De ..);simp only at f1 f2 f3 f4 f5;have step:∀(c':Nat) (u':List ae),n+w<=c'->ck (cells++kx w s++[.rest u'])=c'*1->Fj F E fs (n+w) c' (cells++kx w s++[.rest u']) (cells++kx w s) u':=by
   intro c' u' g1 g2;rw[Nat.mul_one]at g2;refine ae8 fs (n+w) c' _ _ u' (λf hm=>hf f (yu _ hm)) g1 g2 ?_ g2 ?_
   ·rw[ae7,avd,h3]
   ·intro c2 u2 g3 g4;have:=hE c2 u2 (by simpa[AI]using g3) (by simpa[bU]using g4);simpa[AI,bU]using this
  unfold Fj;refine aM (λh=>absurd (by simpa using h:s<lo) (by omega)) λ_=>aM (λh=>absurd (by simpa using h:hi<s) (by omega)) λ_=>aM (λh=>?_) λ_=>⟨⟨h1,by rw[h2,Nat.mul_one]⟩,step,step⟩;exfalso;have e:jx (u64.wrap s) (db (2^(8*w)))=0:=by
   have hd:∀d:Int,0<=d->s<d->jx s d=0:=λd h0 h=>by rw[uB _ h0];exact Int.ediv_eq_zero_of_lt f3 h
   rw[s9,J6 f3 (by omega)];exact hd _ (AL _) f4
  rw[e]at h;simp at h
theorem ae9 {k:Int} {fs:List (Int×Int×Int×Nat)} {K:VK Empty} (hf:∀f∈fs,f.2.1<=f.1/\f.1<=f.2.2.1/\0<=f.1/\f.1<18446744073709551616/\f.1<db (2^(8*f.2.2.2)))
 (hK:∀c' u',1+(fs.map λf=>f.2.2.2).sum<=c'->ck ([.int .u8 k]++(fs.map λf=>kx f.2.2.2 f.1).flatten++[.rest u'])=c'->K (.av [.sl 0 0 (1+(fs.map λf=>f.2.2.2).sum) c',.int .i64 0]) [⟨true,⟨5,(0,0)⟩,([.int .u8 k]++(fs.map λf=>kx f.2.2.2 f.1).flatten)++[.rest u']⟩] []):m9 k fs K:=
 ae8 fs 1 1 _ _ [] hf (dH _) rfl rfl rfl hK
theorem CT {x:V} {k:Int} {fs:List (Int×Int×Int×Nat)} {n:Nat} (e:∀K,yb x K=m9 k fs K) (hf:∀f∈fs,f.2.1<=f.1/\f.1<=f.2.2.1/\0<=f.1/\f.1<18446744073709551616/\f.1<db (2^(8*f.2.2.2))) (hn:1+(fs.map λf=>f.2.2.2).sum=n) {g:Nat->Int}
 (hg:∀j,j<n->∀u:List ae,(ai [] (([.int .u8 k]++(fs.map λf=>kx f.2.2.2 f.1).flatten)++[.rest u]))[j]?=some (.int .u8 (g j))) (hw:bo 0 (([.int .u8 k]++(fs.map λf=>kx f.2.2.2 f.1).flatten))=true) (w:ag):
 aV prog 190 (aH [] [x]).toArray w λv w1=>∃b c1,v=.tuple #[.slice (some ⟨b,0,none⟩) n c1,.int .i64 0]/\n<=c1/\w.heap.size<=b/\cx w1 b 0 n g/\Ch [] w w1:=by
 have h:yb x λv b _=>∃c u,v=.av [.sl 0 0 n c,.int .i64 0]/\b=[⟨true,⟨5,(0,0)⟩,([.int .u8 k]++(fs.map λf=>kx f.2.2.2 f.1).flatten)++[.rest u]⟩]/\n<=c:=by
  rw[e];exact ae9 hf λc u h1 h2=>⟨c,u,by rw[hn],rfl,by omega⟩
 refine(eO (aI.nil (G:=Empty) (P:=prog) (gl:=λ_=>none)).T (aI.nil (G:=Empty) (P:=prog) (gl:=λ_=>none)).Q 60 (C:=fW prog (λ_=>none) ([]:List (bR Empty)) (zj prog) Bx) (ids:=[]) (bl:=[]) (ch:=[]) (R:=[]) Gl.none rfl (St.nil [] w) h).mono ?_;rintro v w' ⟨y,more,bl',ch',rfl,h1,S',hK⟩;obtain⟨v2,cJ,bl2,e2,dv,S2,c,u,rfl,rfl,hc⟩:=iB (n0:=0) h1 (by simp) S' hK
 match cJ,dv,S2,e2 with
 |[b],_,S2,e2=>
  have S3:St [] w ([aD [b] b ⟨true,⟨5,(0,0)⟩,([.int .u8 k]++(fs.map λf=>kx f.2.2.2 f.1).flatten)++[.rest u]⟩]) w':=match ch',S2 with
   |[],S2=>S2
   |e::_,_=>nomatch e
  refine⟨b,c,e2,hc,(S3.own 0 _ rfl rfl).resolve_left (by simp),?_,S3.ch⟩;intro j hj;have aP:w'.heap[b]?=some (.cells (ai [b] (([.int .u8 k]++(fs.map λf=>kx f.2.2.2 f.1).flatten)++[.rest u])).toArray 5 (0,0)):=S3.at_ 0 _ rfl;have hd:=hg j hj u;have e3:ai [b] (([.int .u8 k]++(fs.map λf=>kx f.2.2.2 f.1).flatten)++[.rest u])=ai [] (([.int .u8 k]++(fs.map λf=>kx f.2.2.2 f.1).flatten)++[.rest u]):=by
   have gen:∀L:List V,bo 0 L=true->ai [b] (L++[.rest u])=ai [] (L++[.rest u]):=λL hL=>by
    rw[iV,iV];have q:=jg (ids:=[]) (more:=[b]) L hL;simp only[fi]at q;rw[q];rfl
   exact gen _ hw
  rw[eY,cell_of aP,e3];simpa using hd
 |[],h,_,_=>simp at h
 |_::_::_,h,_,_=>simp at h
theorem ave (wh co:Int) (oJ:0<=wh/\wh<=4) (CU:0<=co/\co<=255) (w:ag):aV prog 190 (aH [] [pC 136 0 0 wh 0 co λ_=>0]).toArray w λv w1=>∃b c1,v=.tuple #[.slice (some ⟨b,0,none⟩) 3 c1,.int .i64 0]/\3<=c1/\w.heap.size<=b/\cx w1 b 0 3 (dm [136,aN 1 (u64.wrap wh) 0,aN 1 (u64.wrap co) 0])/\Ch [] w w1:=
 CT (n:=3) (λK=>avc wh co K) (λf hm=>by
  rcases cn.1 hm with rfl|hm
  ·exact⟨oJ.1,oJ.2,oJ.1,by omega,by show wh<256;omega⟩
  rcases cn.1 hm with rfl|hm
  ·exact⟨CU.1,CU.2,CU.1,by omega,by show co<256;omega⟩
  cases hm) rfl (λj hj u=>by
  rcases(by omega:j=0\/j=1\/j=2)with rfl|rfl|rfl<;>rfl) rfl w
theorem avf (sq:Int) (CV:0<=sq/\sq<=4294967295) (w:ag):aV prog 190 (aH [] [pC 131 sq 0 0 0 0 λ_=>0]).toArray w λv w1=>∃b c1,v=.tuple #[.slice (some ⟨b,0,none⟩) 5 c1,.int .i64 0]/\5<=c1/\w.heap.size<=b/\cx w1 b 0 5 (dm [131,aN 4 (u64.wrap sq) 0,aN 4 (u64.wrap sq) 1,aN 4 (u64.wrap sq) 2,aN 4 (u64.wrap sq) 3])/\Ch [] w w1:=
 CT (n:=5) (λK=>au7 sq K) (λf hm=>by
  rcases cn.1 hm with rfl|hm
  ·exact⟨CV.1,CV.2,CV.1,by omega,by show sq<4294967296;omega⟩
  cases hm) rfl (λj hj u=>by
  rcases(by omega:j=0\/j=1\/j=2\/j=3\/j=4)with rfl|rfl|rfl|rfl|rfl<;>rfl) rfl w
theorem avg (ro wh ep:Int) (Jg:0<=ro/\ro<=3) (oJ:0<=wh/\wh<=4) (m_:0<=ep/\ep<=65535) (w:ag):aV prog 190 (aH [] [pC 130 0 ro wh ep 0 λ_=>0]).toArray w λv w1=>∃b c1,v=.tuple #[.slice (some ⟨b,0,none⟩) 5 c1,.int .i64 0]/\5<=c1/\w.heap.size<=b/\cx w1 b 0 5 (dm [130,aN 1 (u64.wrap ro) 0,aN 1 (u64.wrap wh) 0,aN 2 (u64.wrap ep) 0,aN 2 (u64.wrap ep) 1])/\Ch [] w w1:=
 CT (n:=5) (λK=>au8 ro wh ep K) (λf hm=>by
  rcases cn.1 hm with rfl|hm
  ·exact⟨Jg.1,Jg.2,Jg.1,by omega,by show ro<256;omega⟩
  rcases cn.1 hm with rfl|hm
  ·exact⟨oJ.1,oJ.2,oJ.1,by omega,by show wh<256;omega⟩
  rcases cn.1 hm with rfl|hm
  ·exact⟨m_.1,m_.2,m_.1,by omega,by show ep<65536;omega⟩
  cases hm) rfl (λj hj u=>by
  rcases(by omega:j=0\/j=1\/j=2\/j=3\/j=4)with rfl|rfl|rfl|rfl|rfl<;>rfl) rfl w
theorem avh (sq co:Int) (CV:0<=sq/\sq<=4294967295) (CU:0<=co/\co<=255) (w:ag):aV prog 190 (aH [] [pC 132 sq 0 0 0 co λ_=>0]).toArray w λv w1=>∃b c1,v=.tuple #[.slice (some ⟨b,0,none⟩) 6 c1,.int .i64 0]/\6<=c1/\w.heap.size<=b/\cx w1 b 0 6 (dm [132,aN 4 (u64.wrap sq) 0,aN 4 (u64.wrap sq) 1,aN 4 (u64.wrap sq) 2,aN 4 (u64.wrap sq) 3,aN 1 (u64.wrap co) 0])/\Ch [] w w1:=
 CT (n:=6) (λK=>au9 sq co K) (λf hm=>by
  rcases cn.1 hm with rfl|hm
  ·exact⟨CV.1,CV.2,CV.1,by omega,by show sq<4294967296;omega⟩
  rcases cn.1 hm with rfl|hm
  ·exact⟨CU.1,CU.2,CU.1,by omega,by show co<256;omega⟩
  cases hm) rfl (λj hj u=>by
  rcases(by omega:j=0\/j=1\/j=2\/j=3\/j=4\/j=5)with rfl|rfl|rfl|rfl|rfl|rfl<;>rfl) rfl w
theorem avi (ep:Int) (m_:0<=ep/\ep<=65535) (w:ag):aV prog 190 (aH [] [pC 133 0 0 0 ep 0 λ_=>0]).toArray w λv w1=>∃b c1,v=.tuple #[.slice (some ⟨b,0,none⟩) 3 c1,.int .i64 0]/\3<=c1/\w.heap.size<=b/\cx w1 b 0 3 (dm [133,aN 2 (u64.wrap ep) 0,aN 2 (u64.wrap ep) 1])/\Ch [] w w1:=
 CT (n:=3) (λK=>au_ ep K) (λf hm=>by
  rcases cn.1 hm with rfl|hm
  ·exact⟨m_.1,m_.2,m_.1,by omega,by show ep<65536;omega⟩
  cases hm) rfl (λj hj u=>by
  rcases(by omega:j=0\/j=1\/j=2)with rfl|rfl|rfl<;>rfl) rfl w
theorem avj (wh ep:Int) (oJ:0<=wh/\wh<=4) (m_:0<=ep/\ep<=65535) (w:ag):aV prog 190 (aH [] [pC 134 0 0 wh ep 0 λ_=>0]).toArray w λv w1=>∃b c1,v=.tuple #[.slice (some ⟨b,0,none⟩) 4 c1,.int .i64 0]/\4<=c1/\w.heap.size<=b/\cx w1 b 0 4 (dm [134,aN 1 (u64.wrap wh) 0,aN 2 (u64.wrap ep) 0,aN 2 (u64.wrap ep) 1])/\Ch [] w w1:=
 CT (n:=4) (λK=>ava wh ep K) (λf hm=>by
  rcases cn.1 hm with rfl|hm
  ·exact⟨oJ.1,oJ.2,oJ.1,by omega,by show wh<256;omega⟩
  rcases cn.1 hm with rfl|hm
  ·exact⟨m_.1,m_.2,m_.1,by omega,by show ep<65536;omega⟩
  cases hm) rfl (λj hj u=>by
  rcases(by omega:j=0\/j=1\/j=2\/j=3)with rfl|rfl|rfl|rfl<;>rfl) rfl w
theorem avk (wh ep:Int) (oJ:0<=wh/\wh<=4) (m_:0<=ep/\ep<=65535) (w:ag):aV prog 190 (aH [] [pC 135 0 0 wh ep 0 λ_=>0]).toArray w λv w1=>∃b c1,v=.tuple #[.slice (some ⟨b,0,none⟩) 4 c1,.int .i64 0]/\4<=c1/\w.heap.size<=b/\cx w1 b 0 4 (dm [135,aN 1 (u64.wrap wh) 0,aN 2 (u64.wrap ep) 0,aN 2 (u64.wrap ep) 1])/\Ch [] w w1:=
 CT (n:=4) (λK=>avb wh ep K) (λf hm=>by
  rcases cn.1 hm with rfl|hm
  ·exact⟨oJ.1,oJ.2,oJ.1,by omega,by show wh<256;omega⟩
  rcases cn.1 hm with rfl|hm
  ·exact⟨m_.1,m_.2,m_.1,by omega,by show ep<65536;omega⟩
  cases hm) rfl (λj hj u=>by
  rcases(by omega:j=0\/j=1\/j=2\/j=3)with rfl|rfl|rfl|rfl<;>rfl) rfl w
def oK (nc:Nat->Int):List V:=[.int .i64 129,.int .i64 0,.int .i64 0,.int .i64 0,.int .i64 0,.int .i64 0,.int .u8 (nc 0),.int .u8 (nc 1),.int .u8 (nc 2),.int .u8 (nc 3),.int .u8 (nc 4),.int .u8 (nc 5),.int .u8 (nc 6),.int .u8 (nc 7)]
def yc (nc:Nat->Int):VB:=⟨true,⟨40,(0,0)⟩,oK nc⟩
def Aj (j:Nat):List V:=[.int .i64 1,.int .i64 0,.int .i64 255,.fn 173 [] [.ptr j 0],.fn 174 [] [.ptr j 0]]
def avl (u:List ae):VB:=⟨true,⟨175,(0,0)⟩,Aj 2++(Aj 3++(Aj 4++(Aj 5++(Aj 6++(Aj 7++(Aj 8++(Aj 9++[.rest u])))))))⟩
def Jq:List VB:=(bw 8).map λj=>⟨true,⟨220,(0,0)⟩,[.ptr 0 (6+j)]⟩
def mu (nc:Nat->Int) (u:List ae):List VB:=yc nc::avl u::Jq
def CW (n:Nat) (u:List ae) (c:Nat):Prop:=ck (nh (5*n) (V.bool true)++[.rest u])=c*5
def Jr (X:Nat->List ae->Prop):Nat->Nat->Nat->List ae->Prop
 |0,_,c,u=>X c u
 |k+1,n,c,u=>(n<=c/\CW n u c)/\(∀(c':Nat) (u':List ae),n+1<=c'->CW (n+1) u' c'->Jr X k (n+1) c' u')/\(∀(c':Nat) (u':List ae),n+1<=c'->CW (n+1) u' c'->Jr X k (n+1) c' u')
theorem WE {X:Nat->List ae->Prop}:∀(k n c:Nat) (u:List ae),n<=c->CW n u c->(∀c u,n+k<=c->CW (n+k) u c->X c u)->Jr X k n c u
 |0,_,c,u,h1,h2,hX=>hX c u h1 h2
 |k+1,n,c,u,h1,h2,hX=>by
  have st:∀(c':Nat) (u':List ae),n+1<=c'->CW (n+1) u' c'->Jr X k (n+1) c' u':=λc' u' a b=>WE k (n+1) c' u' a b λc u d e=>hX c u (by omega) (by rw[show n+(k+1)=n+1+k by omega];exact e);exact⟨⟨h1,h2⟩,st,st⟩
def Fk (n:Nat) (f:fL) (args:List V) (bl:List VB) (K:VK Empty):Prop:=br (fW prog (λ_=>none) ([]:List (bR Empty)) (G0 prog) Lx) n f args bl [] K
def qU (k:Nat) (x:Int) (pre post:List ae):List VB:=[⟨false,⟨220,(0,0)⟩,[.pe 1 k 0 1 0]⟩,⟨false,⟨40,(0,0)⟩,[.rest pre,.fP 1 1 λ_=>[.int .u8 x],.rest post]⟩]
def WG (x:Int):Int:=u8.wrap (jx (u64.wrap (i64.wrap x)) (2^0))
def ae_ (k:Nat) (x:Int) (pre post:List ae) (K:VK Empty):Prop:=(k=pre.length/\0<1/\∀_:Nat,[eA .u8 x].length=1)/\cond (decide (i64.wrap x<0)) (K (.av [.raw (.slice none 0 0),.bool false]) (qU k x pre post) [])
 (cond (decide (i64.wrap x>255)) (K (.av [.raw (.slice none 0 0),.bool false]) (qU k x pre post) []) (cond (jx (u64.wrap (i64.wrap x)) (db (2^(8*1)))!=0) (K (.av [.raw (.slice none 0 0),.bool false]) (qU k x pre post) [])
  (K (.av [.sl 2 0 1 1,.bool true]) (qU k x pre post++[⟨true,⟨5,(0,0)⟩,[.int .u8 (WG x)]⟩]) [])))
theorem avm (k:Nat) (x:Int) (pre post:List ae) (K:VK Empty):Fk 60 118 [.agg [.int .i64 1,.int .i64 0,.int .i64 255,.fn 173 [] [.ptr 0 0],.fn 174 [] [.ptr 0 0]]] (qU k x pre post) (bA 2 K)=ae_ k x pre post K:=by kernel_rfl
theorem avn {x:Int} (h:0<=x/\x<=255):WG x=x:=by
 unfold WG;rw[kG (by omega),s9,J6 (by omega) (by omega)];rw[show(2:Int)^0=1 from rfl,Int.fdiv_one,yw,J6 (by omega) (by omega)]
theorem avo {k:Nat} {x:Int} {pre post:List ae} {K:VK Empty} (hk:k=pre.length) (h:0<=x/\x<=255) (hK:K (.av [.sl 2 0 1 1,.bool true]) (qU k x pre post++[⟨true,⟨5,(0,0)⟩,[.int .u8 x]⟩]) []):ae_ k x pre post K:=by
 have e1:i64.wrap x=x:=kG (by omega);have e2:jx (u64.wrap x) (db (2^(8*1)))=0:=by
  rw[s9,J6 (by omega) (by omega),show db (2^(8*1))=256 from rfl,uB _ (by omega)];omega
 refine⟨⟨hk,by omega,λ_=>rfl⟩,aM (λa=>?_) λ_=>aM (λa=>?_) λ_=>aM (λa=>?_) λ_=>?_⟩
 ·rw[e1]at a;exact absurd (of_decide_eq_true a) (by omega)
 ·rw[e1]at a;exact absurd (of_decide_eq_true a) (by omega)
 ·rw[e1,e2]at a;cases a
 ·rw[avn h];exact hK
theorem WH {n f n0:Nat} {args:List V} {bl:List VB} {K:VK Empty} (h:qp (Fk n f args bl (bA n0 K))) {ids:List Nat} (hl:ids.length=bl.length) (hn:n0<=ids.length) {bs:List aj} {ms:List Nat} {w0 w:ag} (S:St ms w0 (lits ids ids bl++bs) w):
 aV prog f (aH ids args).toArray w λv w1=>∃x more b,v=den (ids.take n0++more) x/\(ids.take n0++more).length=b.length/\St ms w0 (lits (ids.take n0++more) (ids.take n0++more) b++bs) w1/\K x b []:=by
 refine(eO (aI.nil (G:=Empty) (P:=prog) (gl:=λ_=>none)).T (aI.nil (G:=Empty) (P:=prog) (gl:=λ_=>none)).Q n (C:=fW prog (λ_=>none) ([]:List (bR Empty)) (G0 prog) Lx) (ids:=ids) (bl:=bl) (ch:=[]) (R:=bs) Gl.none hl S h.h).mono ?_;rintro v w' ⟨y,more,bl',ch',rfl,h1,S',hK⟩
 match ch',S',hK with
 |[],S',hK=>
  obtain⟨v2,cJ,bl2,e,dv,S2,hK⟩:=iB (n0:=n0) h1 (by simp;omega) S' hK;rw[List.take_append_of_le_length hn]at e dv S2;exact⟨v2,cJ,bl2,e,dv,S2,hK⟩
 |e::_,_,_=>nomatch e
theorem avp {q r k:Nat} {x:Int} {pre post:List ae} {w:ag} {f1 f2:Nat×Nat} (wK:f1=(0,0)) (om:f2=(0,0)) (hq:w.heap[q]?=some (.cells #[.pointer (some ⟨r,k,none⟩)] 220 f1)) (hr:w.heap[r]?=some (.cells (pre++(.int .u8 x::post)).toArray 40 f2)) (hk:k=pre.length) (h:0<=x/\x<=255):
 aV prog 118 #[.agg #[.int .i64 1,.int .i64 0,.int .i64 255,.func (.func 173) #[] #[.pointer (some ⟨q,0,none⟩)],.func (.func 174) #[] #[.pointer (some ⟨q,0,none⟩)]]] w λv w1=>∃b,v=.tuple #[.slice (some ⟨b,0,none⟩) 1 1,.bool true]/\St [] w [⟨b,true,.cells #[.int .u8 x] 5 (0,0)⟩] w1:=by
 subst wK om;have S:St [] w (lits [q,r] [q,r] (qU k x pre post)++[]) w:=by
  have:=St.given (w:=w) [(q,.cells #[.pointer (some ⟨r,k,none⟩)] 220 (0,0)),(r,.cells (pre++(.int .u8 x::post)).toArray 40 (0,0))] (by
   intro p hp;simp only[cn,pN,or_false]at hp;rcases hp with rfl|rfl
   ·exact hq
   ·exact hr)
  have e:lits [q,r] [q,r] (qU k x pre post)=[⟨q,false,.cells #[.pointer (some ⟨r,k,none⟩)] 220 (0,0)⟩,⟨r,false,.cells (pre++(.int .u8 x::post)).toArray 40 (0,0)⟩]:=by
   simp[lits,aD,qU,ai,cl,den,Dd]
  rw[e];exact this
 have hx:qp (Fk 60 118 [.agg [.int .i64 1,.int .i64 0,.int .i64 255,.fn 173 [] [.ptr 0 0],.fn 174 [] [.ptr 0 0]]] (qU k x pre post) (bA 2 λv b _=>v=.av [.sl 2 0 1 1,.bool true]/\b=qU k x pre post++[⟨true,⟨5,(0,0)⟩,[.int .u8 x]⟩])):=⟨by rw[avm];exact avo hk h ⟨rfl,rfl⟩⟩;have fZ:=WH hx (ids:=[q,r]) rfl (by simp) S;clear hx;refine fZ.mono ?_;rintro v w' ⟨y,more,b,rfl,hl,S',rfl,rfl⟩
 match more,hl with
 |[b],_=>
  refine⟨b,rfl,?_⟩;have e:lits ([q,r].take 2++[b]) ([q,r].take 2++[b]) (qU k x pre post++[⟨true,⟨5,(0,0)⟩,[.int .u8 x]⟩])=lits [q,r,b] [q,r] (qU k x pre post)++[⟨b,true,.cells #[.int .u8 x] 5 (0,0)⟩]:=rfl;rw[e]at S';exact(S'.sub (List.sublist_append_left _ _)).sub (mA _ _)
def WI {G:Type}:dc G:=λargs bl ch K=>match args with
 |[.agg [.int .i64 1,.int .i64 0,.int .i64 255,.fn 173 [] [.ptr q 0],.fn 174 [] [.ptr q' 0]]]=>(match bl[q]?with
  |some ⟨_,⟨220,(0,0)⟩,[.ptr r k]⟩=>(match bl[r]?with
   |some ⟨_,⟨40,(0,0)⟩,c⟩=>(match takeN c k with
    |some (_,.int .u8 x::_)=>cond (az q q'&&bM bl.length bl) ((0<=x/\x<=255)/\K (.av [.sl bl.length 0 1 1,.bool true]) (bl++[⟨true,⟨5,(0,0)⟩,[.int .u8 x]⟩]) ch) False
    |_=>False)
   |_=>False)
  |_=>False)
 |_=>False
theorem avq {G:Type} [Bl G] (gl:Nat->Option Nat):Sound (G:=G) prog gl 118 WI:=by
 intro args ids bl ch R ms w0 w K hg hl S hc;unfold WI at hc;split at hc
 ·rename_i q q';split at hc
  ·rename_i w1 r k qm;split at hc
   ·rename_i w2 c hbr;split at hc
    ·rename_i a x b ht;cases hq:az q q'&&bM bl.length bl with
     |false=>rw[hq]at hc;exact hc.elim
     |true=>
      rw[hq]at hc;simp only[bu]at hq;obtain⟨hx,hK⟩:=hc;obtain rfl:=cz hq.1;have h1:=(fV hl S qm).2;have h2:=(fV hl S hbr).2;obtain⟨t1,t2⟩:=Gk (ids:=ids) ht;rw[t1]at h2;have e2:ai ids (.int .u8 x::b)=.int .u8 x::ai ids b:=rfl;rw[e2]at h2;have e0:(aH ids [.agg [.int .i64 1,.int .i64 0,.int .i64 255,.fn 173 [] [.ptr q 0],.fn 174 [] [.ptr q 0]]]).toArray=#[.agg #[.int .i64 1,.int .i64 0,.int .i64 255,.func (.func 173) #[] #[.pointer (some ⟨ids.getD q 0,0,none⟩)],.func (.func 174) #[] #[.pointer (some ⟨ids.getD q 0,0,none⟩)]]]:=rfl;rw[e0];refine(avp (q:=ids.getD q 0) (r:=ids.getD r 0) (k:=k) rfl rfl h1 h2 t2.symm hx).mono ?_;rintro v w' ⟨b',rfl,T⟩;have S2:=S.beside T (Wr.cons rfl Wr.nil);refine⟨_,[b'],_,ch,?_,by simp[hl],?_,hK⟩
      ·simp only[den,aH,<-hl,kZ]
      ·rw[fC _ _ _ _ hl,fD _ _ (by rw[hl];exact hq.2)];rw[bU];exact S2.perm (pM [_] (lits ids ids bl) (aC ch R))
    ·exact hc.elim
   ·exact hc.elim
  ·exact hc.elim
 ·exact hc.elim
def WJ (P:aL):(bh->V)->Op->List VB->List bm->VK bm->Prop:=λe op bl ch K=>match op with
 |.call c=>(match c.callee,c.args.toList,c.argTypes.toList with
  |.builtin .append,[s,xs],[t,tx]=>(match P.underlying t,P.underlying tx with
   |some (.slice T),some (.slice _)=>(match tF P T,e s,e xs with
    |some (z,bx),.sl j 0 n c,.sl i 0 (m+1) _=>(match bl[j]?,bl[i]?with
     |some ⟨_,⟨_,(0,0)⟩,ac⟩,some b=>(match yN ac 0 (n*z)with
      |some C=>cond (az n c&&(az (ck ac) (c*z)&&(az (ck b.c) ((m+1)*z)&&(mI b.c&&(bG bx 10000000&&(bG (n+(m+1)) 1000000&&(bo 0 C&&bo 0 b.c)))))))
       (∀(x:Option aQ) (c':Nat) (bk:List aj) (h:fu z T (ai [] C++ai [] b.c) x (n+(m+1)) c' bk),K (.raw (.slice x (n+(m+1)) c')) bl (⟨T,z,ai [] C++ai [] b.c,x,n+(m+1),c',bk,h⟩::ch)) False
      |none=>False)
     |_,_=>False)
    |_,_,_=>False)
   |_,_=>False)
  |_,_,_=>False)
 |_=>False
theorem avr {P:aL} {gl:Nat->Option Nat}:gv P gl (WJ P):=by
 intro e op ids bl ch R ms w0 w K ρ o hg hl S ba ho h;unfold WJ at h;split at h
 ·rename_i c;split at h
  ·rename_i s xs t tx fl cV ei;split at h
   ·rename_i T T' ht gG;split at h
    ·rename_i z bx j n cc i m nv cu gV gn;split at h
     ·rename_i wr Ta ac b ha hb;split at h
      ·rename_i C hC;cases hq:az n cc&&(az (ck ac) (cc*z)&&(az (ck b.c) ((m+1)*z)&&(mI b.c&&(bG bx 10000000&&(bG (n+(m+1)) 1000000&&(bo 0 C&&bo 0 b.c))))))with
       |false=>rw[hq]at h;exact h.elim
       |true=>
        rw[hq]at h;simp only[cond_true]at h;simp only[bu]at hq;obtain⟨q1,q2,q3,q4,q5,q6,q8,q9⟩:=hq;obtain rfl:=cz q1;have q2:=cz q2;have q3:=cz q3;have q5:=dJ q5;have q6:=dJ q6;have aP:=(fV hl S hb).2;have Rx:=(fV hl S ha).2;obtain⟨g1,g2,g3⟩:=yO (ids:=ids) hC;rw[List.drop_zero]at g1;have e1:∀l:List V,bo 0 l=true->ai ids l=ai [] l:=λl hw=>jg (ids:=[]) (more:=ids) l hw;have WK:ai ids ac=ai [] C:=by rw[<-e1 C q8,<-g1,List.take_of_length_le (by rw[kY,q2];exact dH _)]
        obtain⟨inf,tH,hi⟩:=im.1 (GO cu);simp only[bC]at hi;obtain⟨hz,dM,iK⟩:=hi;obtain⟨z0,lW,nY⟩:=im.1 hz;have wN:(ai ids b.c).length=(m+1)*z:=by rw[kY,q3]
        have gd:Src P z tx (.slice (some ⟨ids.getD i 0,0,none⟩) (m+1) nv) (m+1) (ai [] b.c) w:=by
         rw[<-e1 b.c q9];refine sW w gG ⟨ids.getD i 0,0,none⟩ (m+1) nv _ wN (λj u hj=>?_) (λu hu=>Bc q4 u hu);rw[iS,cell_of aP];simpa using hj
        have Ry:w.heap[ids.getD j 0]?=some (.cells (ai [] C++[]).toArray Ta (0,0)):=by rw[cH,<-WK];exact Rx
        have mM:(n+(m+1))*bx<=140737488355328:=hY (Nat.mul_le_mul q6 q5) (by decide);have hold:(Builtin.firstCells inf.size n (.slice (some ⟨ids.getD j 0,0,none⟩) n n)).run P w.drew=.ok (ai [] C).toArray w.drew:=by
         refine run_firstCells_some (P:=P) w.drew inf.size n ⟨ids.getD j 0,0,none⟩ n n (ai [] C) (by rw[<-WK,kY,q2,dM]) (λk v hk=>?_);rw[iS];have:w.drew.cell? ⟨ids.getD j 0,0+k,none⟩=w.cell? ⟨ids.getD j 0,k,none⟩:=by simp
         rw[this,cell_of Ry,cH];simpa using hk
        have bQ:=run_append_grow_src (P:=P) w t tx o.type T inf z0 ht tH lW (some ⟨ids.getD j 0,0,none⟩) n n (ai [] C) hold (.slice (some ⟨ids.getD i 0,0,none⟩) (m+1) nv) (m+1) (ai [] b.c) (by rw[dM];exact gd) (by omega) (by omega) (by rw[iK];exact growslice_fits (by omega) mM);have eG:=grownCap_ge w (n+(m+1)) n T;obtain⟨oe,ar,iO⟩:=c;simp only at fl cV ei;have e2:ar=#[s,xs]:=by rw[<-cV]
        have e3:iO=#[t,tx]:=by rw[<-ei]
        subst fl e2 e3;have iT:ρ s=.slice (some ⟨ids.getD j 0,0,none⟩) n n:=by rw[ba,gV];simp only[den]
        have rU:ρ xs=.slice (some ⟨ids.getD i 0,0,none⟩) (m+1) nv:=by rw[ba,gn];simp only[den]
        let tl:=(oQ z0.cells (grownCap w (n+(m+1)) n T-(n+(m+1)))).toList
        have j9:fu z T (ai [] C++ai [] b.c) (some ⟨w.heap.size,0,none⟩) (n+(m+1)) (grownCap w (n+(m+1)) n T) [⟨w.heap.size,true,.cells ((ai [] C++ai [] b.c)++tl).toArray T (0,0)⟩]:=by
         have l1:(ai [] C).length=n*z:=by rw[<-WK,kY,q2]
         have l2:(ai [] b.c).length=(m+1)*z:=by rw[<-e1 b.c q9,wN]
         refine⟨by rw[ft,l1,l2,<-ng],eG,.inr ⟨_,tl,rfl,rfl,?_⟩⟩;rw[ft,ft,l1,l2,Array.length_toList,size_zeroCells,nY,<-ng,<-ng];congr 1;omega
        refine⟨.raw (.slice (some ⟨w.heap.size,0,none⟩) (n+(m+1)) (grownCap w (n+(m+1)) n T)),[],bl,_,_,.inl (j_ (P:=P) (ρ:=ρ) (o:=o) ho iT rU bQ),by simpa using hl,?_,h _ _ _ j9⟩;rw[cH];have hn:=nT w.drew (.cells ((ai [] C++ai [] b.c).toArray++oQ z0.cells (grownCap w (n+(m+1)) n T-(n+(m+1)))) T);have hce:(ai [] C++ai [] b.c).toArray++oQ z0.cells (grownCap w (n+(m+1)) n T-(n+(m+1)))=((ai [] C++ai [] b.c)++tl).toArray:=by apply fM;simp[tl]
        rw[hce]at hn⊢;have S2:=S.new (((Ch.refl [] w).drew).trans (Ch.alloc [] w.drew _) (λx hx=>.inl hx)) (dH _) hn;refine S2.perm ?_;exact pM [_] (lits ids ids bl) (aC ch R)
      ·exact h.elim
     ·exact h.elim
    ·exact h.elim
   ·exact h.elim
  ·exact h.elim
 ·exact h.elim
def afa (e:bh->V) (op:Op):Bool:=match op with
 |.call c=>(match c.args.toList with
  |s::_=>(match e s with|.raw _=>true|_=>false)
  |_=>false)
 |_=>false
def WM (P:aL):(bh->V)->Op->List VB->List bm->VK bm->Prop:=λe op bl ch K=>cond (afa e op) (Lo P e op bl ch K) (WJ P e op bl ch K)
theorem afb {P:aL} {gl:Nat->Option Nat}:gv P gl (WM P):=wP afa aah avr
def WN:List (bR bm):=[⟨118,false,WI⟩]
theorem afc:aI prog (λ_=>none) WN:=aI.cons ⟨avq _,λe=>by cases e⟩ aI.nil
def WO (n:Nat) (f:fL) (args:List V) (bl:List VB) (K:VK bm):Prop:=br (fW prog (λ_=>none) WN (WM prog) afb) n f args bl [] K
def ap9 (g:bm) (x:Int) (k:bm->Prop):Prop:=(g.v=g.v/\g.n+1<=1000000)/\∀(xa:Option aQ) (c:Nat) (bk:List aj) (h:fu g.z g.T (g.os++[.int .u8 x]) xa (g.n+1) c bk),k ⟨g.T,g.z,g.os++[.int .u8 x],xa,g.n+1,c,bk,h⟩
def WQ (nc:Nat->Int) (E:bm->Prop):Nat->Nat->bm->Prop
 |0,_,g=>E g
 |k+1,i,g=>(0<=nc i/\nc i<=255)/\ap9 g (nc i) (WQ nc E k (i+1))
def avs (nc:Nat->Int) (E:bm->Prop):Prop:=(0<=nc 0/\nc 0<=255)/\∀(x:Option aQ) (c:Nat) (bk:List aj) (h:fu 1 5 ([.int .u8 129]++[.int .u8 (nc 0)]) x 2 c bk),WQ nc E 7 1 ⟨5,1,[.int .u8 129]++[.int .u8 (nc 0)],x,2,c,bk,h⟩
theorem avt (nc:Nat->Int) (c:Nat) (u:List ae) (K:VK bm):WO 90 72 [.int .i64 129,.sl 1 0 8 c] (mu nc u) (bA 10 K)=avs nc λg=>K (.av [g.v,.bool true]) (mu nc u) [g]:=by kernel_rfl
theorem afd (nc:Nat->Int) (K:VK Empty):Fk 60 76 [.ptr 0 0] [yc nc] (bA 1 K)=∀(c:Nat) (u:List ae),1<=c->CW 1 u c->Jr (λc u=>K (.av [.sl 1 0 8 c,.bool true]) (mu nc u) []) 7 1 c u:=by kernel_rfl
theorem avu {n f n0:Nat} {args:List V} {bl:List VB} {K:VK bm} (h:qp (WO n f args bl (bA n0 K))) {ids:List Nat} (hl:ids.length=bl.length) (hn:n0<=ids.length) {bs:List aj} {ms:List Nat} {w0 w:ag} (S:St ms w0 (lits ids ids bl++bs) w):
 aV prog f (aH ids args).toArray w λv w1=>∃x more b ch,v=den (ids.take n0++more) x/\(ids.take n0++more).length=b.length/\St ms w0 (lits (ids.take n0++more) (ids.take n0++more) b++aC ch bs) w1/\K x b ch:=by
 refine(eO afc.T afc.Q n (C:=fW prog (λ_=>none) WN (WM prog) afb) (ids:=ids) (bl:=bl) (ch:=[]) (R:=bs) Gl.none hl S h.h).mono ?_;rintro v w' ⟨y,more,bl',ch',rfl,h1,S',hK⟩;obtain⟨v2,cJ,bl2,e,dv,S2,hK⟩:=iB (n0:=n0) h1 (by simp;omega) S' hK;rw[List.take_append_of_le_length hn]at e dv S2;exact⟨v2,cJ,bl2,ch',e,dv,S2,hK⟩
def f9 (nc:Nat->Int):Nat->Int:=dm [129,nc 0,nc 1,nc 2,nc 3,nc 4,nc 5,nc 6,nc 7]
structure OD (nc:Nat->Int) (g:bm):Prop where
 T:g.T=5
 z:g.z=1
 n:g.n=9
 os:g.os=(bw 9).map λj=>.int .u8 (f9 nc j)
def WR:dc bm:=λargs bl ch K=>match args,bl with
 |[.ptr 0 0],[⟨true,⟨40,(0,0)⟩,c⟩]=>∃nc,c=oK nc/\∀(k:Nat) (u:List ae),8<=k->K (.av [.sl 1 0 8 k,.bool true]) (mu nc u) ch
 |_,_=>False
def WS:dc bm:=λargs bl ch K=>match args with
 |[.int .i64 129,.sl 1 0 8 _]=>∃nc u,bl=mu nc u/\(∀j,0<=nc j/\nc j<=255)/\∀g:bm,OD nc g->K (.av [g.v,.bool true]) bl (g::ch)
 |_=>False
theorem avv:Sound prog (λ_=>none) 76 WR:=by
 intro args ids bl ch R ms w0 w K hg hl S hc;unfold WR at hc;split at hc
 ·rename_i c;obtain⟨nc,rfl,hK⟩:=hc
  match ids,hl with
  |[r],_=>
   have hv:qp (Fk 60 76 [.ptr 0 0] [yc nc] (bA 1 λv b _=>∃k u,v=.av [.sl 1 0 8 k,.bool true]/\b=mu nc u/\8<=k)):=⟨by rw[afd];exact λc u h1 h2=>WE 7 1 c u h1 h2 λk u h _=>⟨k,u,rfl,rfl,h⟩⟩;have hr:=WH hv (ids:=[r]) (bs:=aC ch R) rfl (by simp) S;clear hv;refine hr.mono ?_;rintro v w' ⟨x,more,b,rfl,h1,S2,k,u,rfl,rfl,h8⟩;exact⟨_,more,_,ch,rfl,h1,S2,hK k u h8⟩
 ·exact hc.elim
theorem afe {nc:Nat->Int} (jV:∀j,0<=nc j/\nc j<=255) {E:bm->Prop}:∀(k i:Nat) (g:bm),g.T=5->g.z=1->g.n=i+1->g.os=.int .u8 129::(bw i).map (λj=>.int .u8 (nc j))->i+k<=100->
 (∀g:bm,g.T=5->g.z=1->g.n=i+k+1->g.os=.int .u8 129::(bw (i+k)).map (λj=>.int .u8 (nc j))->E g)->WQ nc E k i g
 |0,i,g,h1,h2,h3,h4,_,hE=>hE g h1 h2 h3 h4
 |k+1,i,g,h1,h2,h3,h4,hb,hE=>⟨jV i,⟨rfl,by omega⟩,λxa c bk h=>afe jV k (i+1) _ h1 h2 (by show g.n+1=_;omega) (by show g.os++_=_;rw[h4,Dd,rk];rfl) (by omega) λg a b c d=>hE g a b (by omega) (by rw[d,show i+1+k=i+(k+1) by omega])⟩
theorem avw:Sound prog (λ_=>none) 72 WS:=by
 intro args ids bl ch R ms w0 w K hg hl S hc;unfold WS at hc;split at hc
 ·rename_i c;obtain⟨nc,u,rfl,jV,hK⟩:=hc;have hv:qp (WO 90 72 [.int .i64 129,.sl 1 0 8 c] (mu nc u) (bA 10 λv b ch=>∃g,v=.av [g.v,.bool true]/\b=mu nc u/\ch=[g]/\OD nc g)):=⟨by
   rw[avt];exact⟨jV 0,λx c bk h=>afe jV 7 1 _ rfl rfl rfl rfl (by omega) λg a b c d=>⟨g,rfl,rfl,rfl,a,b,c,by rw[d];rfl⟩⟩⟩
  have hr:=avu hv (ids:=ids) (bs:=aC ch R) hl (by rw[hl];simp[mu,Jq]) S;clear hv;refine hr.mono ?_;rintro v w' ⟨x,more,b,ch',rfl,h1,S2,g,rfl,rfl,rfl,h9⟩;have hlen:ids.length=10:=by rw[hl];simp[mu,Jq]
  have hm:more=[]:=by
   have:(ids.take 10++more).length=10:=by rw[h1];simp[mu,Jq]
   rw[ft,vQ,hlen]at this;exact nf (by simpa using this)
  subst hm;rw[List.take_of_length_le (by omega)]at S2 h1;refine⟨_,[],_,_,?_,h1,S2,hK g h9⟩;rw[List.take_of_length_le (by omega)]
 ·exact hc.elim
def WT:List (bR bm):=[⟨76,false,WR⟩,⟨72,false,WS⟩]
theorem aff:aI prog (λ_=>none) WT:=aI.cons ⟨avv,λe=>by cases e⟩ (aI.cons ⟨avw,λe=>by cases e⟩ aI.nil)
def WU (n:Nat) (f:fL) (args:List V) (K:VK bm):Prop:=br (bZ prog (λ_=>none) WT) n f args [] [] K
theorem avx {n f:Nat} {args:List V} {K:VK bm} (h:qp (WU n f args (bA 0 K))) {w:ag}:
 aV prog f (aH [] args).toArray w λv w1=>∃x b ch,(b=[]->v=den [] x)/\(b=[]->St [] w (aC ch []) w1)/\K x b ch:=by
 refine(eO aff.T aff.Q n (C:=bZ prog (λ_=>none) WT) (ids:=[]) (bl:=[]) (ch:=[]) (R:=[]) (ms:=[]) (w0:=w) (w:=w) Gl.none rfl (St.nil [] w) h.h).mono ?_;rintro v w' ⟨y,more,bl',ch',rfl,h1,S',hK⟩;obtain⟨v2,cJ,bl2,e,dv,S2,hK⟩:=iB (n0:=0) (ids:=more) h1 (by simp) S' hK;refine⟨v2,bl2,ch',λhb=>?_,λhb=>?_,hK⟩
 ·subst hb;obtain rfl:cJ=[]:=by simpa using dv
  exact e
 ·subst hb;obtain rfl:cJ=[]:=by simpa using dv
  exact S2
theorem avy (nc:Nat->Int) (K:VK bm):WU 60 190 [.agg (oK nc)] (bA 0 K)=∃nc1,oK nc=oK nc1/\∀(k:Nat) (u:List ae),8<=k->∃OE u2,mu nc1 u=mu OE u2/\(∀j,0<=OE j/\OE j<=255)/\∀g:bm,OD OE g->K (.av [g.v,.int .i64 0]) [] [g]:=by kernel_rfl
theorem avz (nc:Nat->Int) (h:∀j,0<=nc j/\nc j<=255) (w:ag):aV prog 190 (aH [] [.agg (oK nc)]).toArray w λv w1=>∃b c1,v=.tuple #[.slice (some ⟨b,0,none⟩) 9 c1,.int .i64 0]/\9<=c1/\w.heap.size<=b/\cx w1 b 0 9 (f9 nc)/\Ch [] w w1:=by
 have hv:qp (WU 60 190 [.agg (oK nc)] (bA 0 λv b ch=>∃g,v=.av [g.v,.int .i64 0]/\b=[]/\ch=[g]/\OD nc g)):=⟨by rw[avy];exact⟨nc,rfl,λk u _=>⟨nc,u,rfl,h,λg hg=>⟨g,rfl,rfl,rfl,hg⟩⟩⟩⟩;have hr:=avx hv (w:=w);clear hv;refine hr.mono ?_;rintro v w' ⟨x,b,ch',e,S2,g,rfl,rfl,rfl,h1,h2,h3,h4⟩;have e:=e rfl;have S2:=S2 rfl;have hg:=g.h;rw[h1,h2,h3,h4]at hg;obtain⟨_,hc,hx⟩:=hg;rcases hx with⟨_,h0,_⟩|⟨b,t,hx,hb,_⟩
 ·cases h0
 ·have S3:St [] w ([⟨b,true,.cells (((bw 9).map λj=>eA .u8 (f9 nc j))++t).toArray 5 (0,0)⟩]++[]) w':=by
   have:St [] w (g.bl++[]) w':=S2;rw[hb]at this;exact this
  refine⟨b,g.c,?_,hc,(S3.own 0 _ rfl rfl).resolve_left (by simp),λj hj=>?_,S3.ch⟩
  ·rw[e];simp only[den,aH,bm.v,hx,h3]
  ·rw[eY,cell_of (S3.at_ 0 _ rfl)];simp only[jQ];rw[iq (by simpa using hj)];simp[nV hj]
end
section
open Go Go.RowKit Go.BigFrame Sx
def WV (r:Sd.aF):Array ae:=#[.int .i64 r.kind,.int .i64 r.seq,.int .i64 r.role,.int .i64 r.cX,.int .i64 r.ah,.int .i64 r.code,.int .u8 (r.aA 0),.int .u8 (r.aA 1),.int .u8 (r.aA 2),.int .u8 (r.aA 3),.int .u8 (r.aA 4),.int .u8 (r.aA 5),.int .u8 (r.aA 6),.int .u8 (r.aA 7)]
def cU (r:Sd.aF):Nat:=if r.kind=129 then 9 else if r.kind=130\/r.kind=131 then 5 else if r.kind=132 then 6 else if r.kind=133\/r.kind=136 then 3 else 4
def kU (r:Sd.aF):Nat->Int:=if r.kind=129 then f9 r.aA else if r.kind=130 then dm [130,aN 1 (u64.wrap r.role) 0,aN 1 (u64.wrap r.cX) 0,aN 2 (u64.wrap r.ah) 0,aN 2 (u64.wrap r.ah) 1]
 else if r.kind=131 then dm [131,aN 4 (u64.wrap r.seq) 0,aN 4 (u64.wrap r.seq) 1,aN 4 (u64.wrap r.seq) 2,aN 4 (u64.wrap r.seq) 3]else if r.kind=132 then dm [132,aN 4 (u64.wrap r.seq) 0,aN 4 (u64.wrap r.seq) 1,aN 4 (u64.wrap r.seq) 2,aN 4 (u64.wrap r.seq) 3,aN 1 (u64.wrap r.code) 0]
 else if r.kind=133 then dm [133,aN 2 (u64.wrap r.ah) 0,aN 2 (u64.wrap r.ah) 1]else if r.kind=134 then dm [134,aN 1 (u64.wrap r.cX) 0,aN 2 (u64.wrap r.ah) 0,aN 2 (u64.wrap r.ah) 1]
 else if r.kind=135 then dm [135,aN 1 (u64.wrap r.cX) 0,aN 2 (u64.wrap r.ah) 0,aN 2 (u64.wrap r.ah) 1]else dm [136,aN 1 (u64.wrap r.cX) 0,aN 1 (u64.wrap r.code) 0]
theorem afg (r:Sd.aF):cU r=3\/cU r=4\/cU r=5\/cU r=6\/cU r=9:=by
 unfold cU;repeat' split
 all_goals simp
theorem avA (r:Sd.aF) (h:RB r) (w:ag):aV prog 190 #[.agg (WV r)] w λv w1=>∃b c1,v=.tuple #[.slice (some ⟨b,0,none⟩) (cU r) c1,.int .i64 0]/\cU r<=c1/\w.heap.size<=b/\cx w1 b 0 (cU r) (kU r)/\Ch [] w w1:=by
 have hk:r.kind=129\/r.kind=130\/r.kind=131\/r.kind=132\/r.kind=133\/r.kind=134\/r.kind=135\/r.kind=136:=by have:=h.kind;omega
 obtain⟨k,sq,ro,wh,ep,co,nc⟩:=r;obtain⟨_,⟨s1,s2⟩,⟨r1,r2⟩,⟨w1,w2⟩,⟨e1,e2⟩,⟨c1,c2⟩,⟨n1,n2⟩⟩:=h;simp only at*;rcases hk with rfl|rfl|rfl|rfl|rfl|rfl|rfl|rfl<;>simp at s2 r2 w2 e2 c2 n2<;>subst_vars
 ·exact avz nc n1 w
 ·exact avg ro wh ep r1 w1 e1 w
 ·exact avf sq s1 w
 ·exact avh sq co s1 c1 w
 ·exact avi ep e1 w
 ·exact avj wh ep w1 e1 w
 ·exact avk wh ep w1 e1 w
 ·exact ave wh co w1 c1 w
theorem avB (n:Nat) (hn:n=3\/n=4\/n=5\/n=6\/n=9) (b o c:Nat) (f:Nat->Int) (w:ag) (hB:cx w b o n f):
 aV prog 191 #[.slice (some ⟨b,o,none⟩) n c] w λv w1=>∃b c1,v=.tuple #[.slice (some ⟨b,0,none⟩) (n+5) c1,.int .i64 0]/\n+5<=c1/\w.heap.size<=b/\w1.heap[b]?=some (.cells (bI (n+5) (ov n f) c1) 5 (0,0))/\Ch [] w w1:=by
 exact al9 b o n c f (by omega) w hB
theorem avC (xs:Option aQ) (ns cs:Nat) (dS bc:Nat) (x:Option aQ) (n c:Nat) (bl:List aj) (so:List ae) (l:Int) (r:Sd.aF) (Js:RB r) (w:ag) {ms:List Nat} {w0:ag} {bs:List aj} (S0:St ms w0 ([⟨dS,true,.cells #[.pointer (some ⟨bc,0,none⟩),.slice xs ns cs,.slice x n c] 128 (0,0)⟩]++(bl++bs)) w) (hR:fu 2 85 so xs ns cs bl) (hn:ns<=1000):
 aV prog 147 #[.pointer (some ⟨dS,0,none⟩),.int .i64 l,.agg #[.int .i64 r.kind,.int .i64 r.seq,.int .i64 r.role,.int .i64 r.cX,.int .i64 r.ah,.int .i64 r.code,.int .u8 (r.aA 0),.int .u8 (r.aA 1),.int .u8 (r.aA 2),.int .u8 (r.aA 3),.int .u8 (r.aA 4),.int .u8 (r.aA 5),.int .u8 (r.aA 6),.int .u8 (r.aA 7)]] w λv w1=>∃x1 c1 km bf cf,v=.tuple #[]/\fu 2 85 (so++[.int .i64 l,.slice (some ⟨bf,0,none⟩) (cU r+5) cf]) x1 (ns+1) c1 km/\cU r+5<=cf/\St ms w0 ([⟨dS,true,.cells #[.pointer (some ⟨bc,0,none⟩),.slice x1 (ns+1) c1,.slice x n c] 128 (0,0)⟩]++(km++(⟨bf,true,.cells (bI (cU r+5) (ov (cU r) (kU r)) cf) 5 (0,0)⟩::bs))) w1:=by
 refine jd Tryz.func147 rfl ?_;refine aS (aZ ?_);refine eZ S0 (λb=>.pointer (some ⟨b,0,none⟩)) (.cells #[.int .i64 r.kind,.int .i64 r.seq,.int .i64 r.role,.int .i64 r.cX,.int .i64 r.ah,.int .i64 r.code,.int .u8 (r.aA 0),.int .u8 (r.aA 1),.int .u8 (r.aA 2),.int .u8 (r.aA 3),.int .u8 (r.aA 4),.int .u8 (r.aA 5),.int .u8 (r.aA 6),.int .u8 (r.aA 7)] 40) ?_;intro bJ iC dQ;refine aW (aR (aS (aZ ?_)));refine kA dQ 0 14 #[.int .i64 r.kind,.int .i64 r.seq,.int .i64 r.role,.int .i64 r.cX,.int .i64 r.ah,.int .i64 r.code,.int .u8 (r.aA 0),.int .u8 (r.aA 1),.int .u8 (r.aA 2),.int .u8 (r.aA 3),.int .u8 (r.aA 4),.int .u8 (r.aA 5),.int .u8 (r.aA 6),.int .u8 (r.aA 7)] bJ 0 ?_;refine fT 190 #[.agg #[.int .i64 r.kind,.int .i64 r.seq,.int .i64 r.role,.int .i64 r.cX,.int .i64 r.ah,.int .i64 r.code,.int .u8 (r.aA 0),.int .u8 (r.aA 1),.int .u8 (r.aA 2),.int .u8 (r.aA 3),.int .u8 (r.aA 4),.int .u8 (r.aA 5),.int .u8 (r.aA 6),.int .u8 (r.aA 7)]] ?_;refine(avA r Js _).mono ?_;rintro _ Ha ⟨tK,WW,rfl,wY,lE,kH,Hb⟩;have dg:=dQ.quiet Hb;refine dZ ?_;refine au (.slice (some ⟨tK,0,none⟩) (cU r) WW) ?_;refine au (.int .i64 0) ?_;refine gx ?_;refine au (.int .i64 0) ?_;refine aW (aR (aS (aZ ?_)));refine dZ ?_;refine fT 191 #[.slice (some ⟨tK,0,none⟩) (cU r) WW] ?_;refine(avB (cU r) (afg r) tK 0 WW (kU r) _ kH).mono ?_;rintro _ Sb ⟨mQ,lg,rfl,D_,G6,zm,ny⟩;have o_:=dg.new ny G6 zm;refine dZ ?_;refine au (.slice (some ⟨mQ,0,none⟩) (cU r+5) lg) ?_;refine au (.int .i64 0) ?_;refine gx ?_;refine au (.int .i64 0) ?_;refine aW (aR (aZ ?_));refine dZ ?_;refine dZ ?_;refine au (.pointer (some ⟨dS,0,none⟩)) ?_;refine au (.pointer (some ⟨dS,1,none⟩)) ?_;refine pP o_ 2 (.slice xs ns cs) dS 1 ?_;refine au (.int .i64 l) ?_;refine dZ ?_;refine au (.agg #[.int .i64 l,.slice (some ⟨mQ,0,none⟩) (cU r+5) lg]) ?_;refine eZ o_ (λb=>.slice (some ⟨b,0,none⟩) 1 1) (.cells #[.int .i64 l,.slice (some ⟨mQ,0,none⟩) (cU r+5) lg] 85) ?_;intro Jt S9 u_;have avD:St ms w0 ([⟨Jt,true,.cells #[.int .i64 l,.slice (some ⟨mQ,0,none⟩) (cU r+5) lg] 85 (0,0)⟩,⟨mQ,true,.cells (bI (cU r+5) (ov (cU r) (kU r)) lg) 5 (0,0)⟩,⟨bJ,true,.cells #[.int .i64 r.kind,.int .i64 r.seq,.int .i64 r.role,.int .i64 r.cX,.int .i64 r.ah,.int .i64 r.code,.int .u8 (r.aA 0),.int .u8 (r.aA 1),.int .u8 (r.aA 2),.int .u8 (r.aA 3),.int .u8 (r.aA 4),.int .u8 (r.aA 5),.int .u8 (r.aA 6),.int .u8 (r.aA 7)] 40 (0,0)⟩,⟨dS,true,.cells #[.pointer (some ⟨bc,0,none⟩),.slice xs ns cs,.slice x n c] 128 (0,0)⟩]++(bl++bs)) S9:=u_.re (R:=bs) [[⟨Jt,true,.cells #[.int .i64 l,.slice (some ⟨mQ,0,none⟩) (cU r+5) lg] 85 (0,0)⟩],[⟨mQ,true,.cells (bI (cU r+5) (ov (cU r) (kU r)) lg) 5 (0,0)⟩],[⟨bJ,true,.cells #[.int .i64 r.kind,.int .i64 r.seq,.int .i64 r.role,.int .i64 r.cX,.int .i64 r.ah,.int .i64 r.code,.int .u8 (r.aA 0),.int .u8 (r.aA 1),.int .u8 (r.aA 2),.int .u8 (r.aA 3),.int .u8 (r.aA 4),.int .u8 (r.aA 5),.int .u8 (r.aA 6),.int .u8 (r.aA 7)] 40 (0,0)⟩],[⟨dS,true,.cells #[.pointer (some ⟨bc,0,none⟩),.slice xs ns cs,.slice x n c] 128 (0,0)⟩],bl] [0,1,2,3,4];refine ag5 (z:=2) (T:=85) (olds:=so) (xs:=xs) (n:=ns) (c:=cs) (m:=1) (news:=[.int .i64 l,.slice (some ⟨mQ,0,none⟩) (cU r+5) lg]) (xv:=.slice (some ⟨Jt,0,none⟩) 1 1) (A:=[⟨Jt,true,.cells #[.int .i64 l,.slice (some ⟨mQ,0,none⟩) (cU r+5) lg] 85 (0,0)⟩,⟨mQ,true,.cells (bI (cU r+5) (ov (cU r) (kU r)) lg) 5 (0,0)⟩,⟨bJ,true,.cells #[.int .i64 r.kind,.int .i64 r.seq,.int .i64 r.role,.int .i64 r.cX,.int .i64 r.ah,.int .i64 r.code,.int .u8 (r.aA 0),.int .u8 (r.aA 1),.int .u8 (r.aA 2),.int .u8 (r.aA 3),.int .u8 (r.aA 4),.int .u8 (r.aA 5),.int .u8 (r.aA 6),.int .u8 (r.aA 7)] 40 (0,0)⟩,⟨dS,true,.cells #[.pointer (some ⟨bc,0,none⟩),.slice xs ns cs,.slice x n c] 128 (0,0)⟩]) (bl:=bl) (R:=bs) avD hR (ag4 u_ 0 1 2 [.int .i64 l,.slice (some ⟨mQ,0,none⟩) (cU r+5) lg] (tx:=59) (e':=85) (by kernel_rfl) (by kernel_rfl) (by kernel_rfl) (by rfl)) 32 (hbd:=(by omega)) (h63:=(by unfold maxLen;omega)) (k:=?_);intro WX WY afh azF zr avE;refine au (.pointer (some ⟨dS,0,none⟩)) ?_;refine au (.pointer (some ⟨dS,1,none⟩)) ?_;refine store_ avE 3 (.slice WX (ns+1) WY) dS 1 ?_;intro LR RW;refine aW ?_;refine end_ rfl (gb [] [] (.tuple #[]) trivial) ?_;refine⟨WX,WY,afh,mQ,lg,rfl,?_,D_,?_⟩
 ·exact zr
 ·exact RW.re (R:=bs) [[⟨Jt,true,.cells #[.int .i64 l,.slice (some ⟨mQ,0,none⟩) (cU r+5) lg] 85 (0,0)⟩],[⟨mQ,true,.cells (bI (cU r+5) (ov (cU r) (kU r)) lg) 5 (0,0)⟩],[⟨bJ,true,.cells #[.int .i64 r.kind,.int .i64 r.seq,.int .i64 r.role,.int .i64 r.cX,.int .i64 r.ah,.int .i64 r.code,.int .u8 (r.aA 0),.int .u8 (r.aA 1),.int .u8 (r.aA 2),.int .u8 (r.aA 3),.int .u8 (r.aA 4),.int .u8 (r.aA 5),.int .u8 (r.aA 6),.int .u8 (r.aA 7)] 40 (0,0)⟩],[⟨dS,true,.cells #[.pointer (some ⟨bc,0,none⟩),.slice WX (ns+1) WY,.slice x n c] 128 (0,0)⟩],afh] [3,4,1]
end
section
open Go Go.RowKit Go.BigFrame Sx Vx
def bN (r:Sd.aF):Nat×Sd.ao:=(cU r+5,ov (cU r) (kU r))
theorem avF {l:List V} {r:Sd.aF} (h:UM l=some r) (ids:List Nat):(ai ids l).toArray=WV r:=by
 unfold UM at h;split at h
 ·split at h
  ·obtain rfl:=cG h;kernel_rfl
  ·obtain rfl:=cG h;kernel_rfl
  ·cases h
 ·cases h
theorem afi (r c s k t:aj) (A B E R:List aj):([r,c,s,k,t]++((A++(B++E))++R)).Perm ([s]++(B++(r::c::k::t::(A++(E++R))))):=by
 have h1:([r,c,s,k,t]++((A++(B++E))++R)).Perm (s::r::c::k::t::((A++(B++E))++R)):=by
  refine((Pz s c _).cons r).trans ?_;exact Pz s r _
 refine h1.trans (uq s ?_);have h2:([r,c,k,t]++(A++(B++(E++R)))).Perm (B++([r,c,k,t]++(A++(E++R)))):=by
  have e1:[r,c,k,t]++(A++(B++(E++R)))=([r,c,k,t]++A)++(B++(E++R)):=by simp
  have e2:B++([r,c,k,t]++(A++(E++R)))=B++(([r,c,k,t]++A)++(E++R)):=by simp
  rw[e1,e2];exact pM _ _ _
 simpa[bU]using h2
def aX.tell {fr:Sd.aF->Nat×Sd.ao} {k:LK} {s:Sd.aa} (F:aX fr (aU k s)) (l:Int) (r:Sd.aF) {x1:Option aQ} {c1:Nat} {km Bf:List aj} {so:List ae} (hs:fu 2 85 so x1 (s.tell l r).bg.length c1 km) (hf:Cd fr (s.tell l r).bg so Bf):aX fr (aU k (s.tell l r)):=
 ⟨x1,c1,F.xr,F.cr,F.Bq,F.Br,km,Bf,F.Bk,so,F.hq,F.hr,hs,hf,F.hk⟩
theorem Ju:Body (fr:=bN) 147 dY:=by
 intro ar k s F Kb a b c R ms w0 w h0 hq hM S;unfold dY at hM;split at hM
 ·rename_i l rl;split at hM
  ·rename_i r hr;have hrm:=hM.1.1;have Js:=hM.1.2;have hK:=hM.2;have e1:lits (bW a b c) (bW a b c) (bK k s F)=[aD (bW a b c) 1 (cw k),aD (bW a b c) 0 (iQ k),⟨a,true,.cells #[.pointer (some ⟨b,0,none⟩),F.vs,F.vr] 128 (0,0)⟩,aD (bW a b c) b (g_ k 4 s),aD (bW a b c) c (gM s)]:=by kernel_rfl
   rw[e1,UA]at S;have S1:=S.perm (afi _ _ _ _ _ _ _ _ _);have e2:(aH (bW a b c) (.ptr 2 0::[.int .i64 l,.agg rl])).toArray=#[.pointer (some ⟨a,0,none⟩),.int .i64 l,.agg (WV r)]:=by
    have:=avF hr (bW a b c);simp only[aH,den,this];rfl
   rw[e2];have hn:s.bg.length<=1000:=by have:=hrm.1;omega
   refine(avC _ _ _ _ _ _ _ _ _ _ l r Js w S1 F.hs hn).mono ?_;rintro v w1 ⟨x1,c1,km,bf,cf,rfl,iT,hcf,S2⟩;have hl:(s.tell l r).bg.length=s.bg.length+1:=by simp[Sd.aa.tell]
   have jA:fu 2 85 (F.so++[.int .i64 l,.slice (some ⟨bf,0,none⟩) (bN r).1 cf]) x1 (s.tell l r).bg.length c1 km:=by rw[hl];exact iT
   have Gt:Cd bN (s.tell l r).bg (F.so++[.int .i64 l,.slice (some ⟨bf,0,none⟩) (bN r).1 cf]) (F.Bf++[⟨bf,true,.cells (bI (bN r).1 (bN r).2 cf) 5 (0,0)⟩]):=F.hf.snoc l r (some ⟨bf,0,none⟩) cf _ ⟨hcf,.inr ⟨bf,rfl,rfl⟩⟩
   let F':aX bN (aU k (s.tell l r)):=F.tell l r jA Gt
   refine⟨.av [],_,F',rfl,rfl,rfl,hK F',?_⟩;have e3:lits (bW a b c) (bW a b c) (bK k (s.tell l r) F')=[aD (bW a b c) 1 (cw k),aD (bW a b c) 0 (iQ k),⟨a,true,.cells #[.pointer (some ⟨b,0,none⟩),.slice x1 (s.tell l r).bg.length c1,F.vr] 128 (0,0)⟩,aD (bW a b c) b (g_ k 4 s),aD (bW a b c) c (gM s)]:=by kernel_rfl
   have e4:F'.B=F.Br++(km++((F.Bf++[⟨bf,true,.cells (bI (bN r).1 (bN r).2 cf) 5 (0,0)⟩])++(F.Bq++F.Bk))):=rfl;rw[e3,e4,hl];refine(S2.perm ?_).perm (afi _ _ _ _ _ _ _ _ _).symm;refine pL _ (pL _ ?_);have p:∀(f x1 x2 x3 x4:aj) (A E D R:List aj),(f::x1::x2::x3::x4::(A++((E++D)++R))).Perm (x1::x2::x3::x4::(A++(((E++[f])++D)++R))):=by
    intro f x1 x2 x3 x4 A E D R;have q1:f::x1::x2::x3::x4::(A++((E++D)++R))=[f]++(([x1,x2,x3,x4]++(A++E))++(D++R)):=by simp
    have q2:x1::x2::x3::x4::(A++(((E++[f])++D)++R))=([x1,x2,x3,x4]++(A++E))++([f]++(D++R)):=by simp
    rw[q1,q2];exact pM _ _ _
   exact p _ _ _ _ _ _ _ _ _
  ·exact hM.elim
 ·exact hM.elim
end
end Go.Proofs.YtggfpcggakghnaaGreatDoor
namespace Sx
open Go Go.RowKit Go.BigFrame
theorem St.OF {w:ag} {bs:List aj} (h:∀y∈bs,y.wr=false/\w.heap[y.id]?=some y.obj):St [] w bs w:=by
 refine St.mk' (Ch.refl _ _) (λy hy=>(h y hy).2) (λy hy e=>by rw[(h y hy).1]at e;cases e) ?_;refine List.pairwise_of_forall_mem_list (λx hx y hy hc=>?_);rcases hc with hc|hc
 ·rw[(h x hx).1]at hc;cases hc
 ·rw[(h y hy).1]at hc;cases hc
end Sx
namespace Go.Proofs.YtggfpcggakghnaaGreatDoor
open Go Go.RowKit Go.BigFrame Go.WideShapes Sx Vx
theorem avG (u:ag):∀y∈dR u,y.wr=false/\u.heap[y.id]?=some y.obj:=by
 intro y hy;unfold dR at hy;rw[lP]at hy;obtain⟨⟨o,i⟩,hp,rfl⟩:=hy;refine⟨rfl,?_⟩;rw[List.mk_mem_zipIdx_iff_getElem?]at hp;simpa using hp
theorem afj {cs:List ae} {off z:Nat} (g:Nat->List ae) (hz:∀j,(g j).length=z):∀n,(∀k,k<n->∀j,j<z->cs[off+k*z+j]?=(g k)[j]?)->cs.drop off=(bw n).flatMap g++cs.drop (off+n*z)
 |0,_=>by simp
 |n+1,h=>by
  rw[afj g hz n (λk hk=>h k (by omega)),Dd,FH,bU];congr 1;have e:(cs.drop (off+n*z)).take z=g n:=by
   apply vR;intro j;by_cases hj:j<z
   ·rw[Yt hj,FI];exact h n (by omega) j hj
   ·rw[jc (by simp;omega),jc (by rw[hz];omega)]
  have e2:=jS z (cs.drop (off+n*z));rw[e,List.drop_drop]at e2;rw[List.flatMap_cons,List.flatMap_nil,cH,<-e2];congr 2;rw[ng];omega
structure OG (W:ag) (v:ae) (z:Nat) (g:Nat->List ae) (i o n c:Nat) (a:Option aQ) (ty:BT) (pre post:List ae):Prop where
 v:v=.slice (bif az n 0 then a else some ⟨i,o,none⟩) n c
 le:n<=c
 po:∀j,j<n->o=pre.length
 at_:W.heap[i]?=some (.cells (pre++((bw n).flatMap g++post)).toArray ty.t ty.fz)
theorem OG.nil {W:ag} {z:Nat} {g:Nat->List ae} {cs:Array ae} {t:aJ} {f:Nat×Nat} {i:Nat} (h:W.heap[i]?=some (.cells cs t f)):OG W (.slice none 0 0) z g i 0 0 0 none ⟨t,f⟩ [] cs.toList:=
 ⟨rfl,dH _,(λj hj=>absurd hj (by omega)),by simpa using h⟩
theorem OG.some {W:ag} {z b o n c:Nat} {g:Nat->List ae} {cs:Array ae} {t:aJ} {f:Nat×Nat} (hle:n<=c) (hz:∀j,(g j).length=z) (aP:W.heap[b]?=some (.cells cs t f)) (h:∀k,k<n->∀j,j<z->W.cell? ⟨b,o+k*z+j,none⟩=(g k)[j]?) (hp:0<z):
 ∃pre post,OG W (.slice (some ⟨b,o,none⟩) n c) z g b o n c (some ⟨b,o,none⟩) ⟨t,f⟩ pre post:=by
 have hc:∀k,k<n->∀j,j<z->cs.toList[o+k*z+j]?=(g k)[j]?:=λk hk j hj=>by
  have:=h k hk j hj;rw[cell_of aP]at this;simpa using this
 have hs:=afj g hz n hc;by_cases hn:n=0
 ·subst hn;exact⟨[],cs.toList,by cases az 0 0<;>rfl,hle,(λj hj=>absurd hj (by omega)),by simpa using aP⟩
 ·refine⟨cs.toList.take o,cs.toList.drop (o+n*z),by cases az n 0<;>rfl,hle,λj hj=>?_,?_⟩
  ·have h0:=hc 0 (by omega) 0 hp;have:o<cs.toList.length:=by
    rcases cZ o cs.toList.length with h1|h1
    ·exact h1
    ·exfalso;rw[jc (by omega)]at h0;have h2:=hz 0;rw[jv (by omega)]at h0;cases h0
   rw[vQ];omega
  ·rw[<-hs,jS];exact aP
end Go.Proofs.YtggfpcggakghnaaGreatDoor
namespace Go.Proofs.YtggfpcggakghnaaGreatDoor
section
open Go Go.RowKit Go.BigFrame Sx Vx
def pD (l:List Int):Int:=i64.wrap (l.foldl (λs b=>bits .or .u64 (u64.wrap (s*2^8)) (u64.wrap b)) 0)
def Jv (bad:Prop) (Jw:List Int->Prop):List (List Int×Int×Int)->List Int->Prop
 |[],acc=>Jw acc
 |(bs,lo,hi)::l,acc=>cond (decide (pD bs<lo)) bad (cond (decide (pD bs>hi)) bad (Jv bad Jw l (acc++[pD bs])))
def Ak (l:List Int) (us:List ae):List VB:=[⟨false,⟨5,(0,0)⟩,l.map (λx=>V.int .u8 x)++[.rest us]⟩]
def Al (n:Nat) (l:List Int) (us:List ae) (e:Nat) (K:VK Empty):Prop:=br (fW prog de ([]:List (bR Empty)) (Fh prog) OB) 60 49 [.sl 0 0 n (e+n)] (Ak l us) [] (bA 1 K)
def Am (k a b c d e:Int) (code:Int):V:=.av [.agg [.int .i64 k,.int .i64 a,.int .i64 b,.int .i64 c,.int .i64 d,.int .i64 e,.int .u8 0,.int .u8 0,.int .u8 0,.int .u8 0,.int .u8 0,.int .u8 0,.int .u8 0,.int .u8 0],.int .i64 code]
def An (l:List Int) (us:List ae) (K:VK Empty) (fs:List (List Int×Int×Int)) (g:List Int->V):Prop:=Jv (K (Am 0 0 0 0 0 0 13) (Ak l us) []) (λx=>K (g x) (Ak l us) []) fs []
section
variable(a b c d x:Int) (us:List ae) (e:Nat) (K:VK Empty)
theorem avH:Al 5 [131,a,b,c,d] us e K=An [131,a,b,c,d] us K [([a,b,c,d],0,4294967295)] (λl=>Am 131 (l.getD 0 0) 0 0 0 0 0):=by kernel_rfl
theorem avI:Al 5 [130,a,b,c,d] us e K=An [130,a,b,c,d] us K [([a],0,3),([b],0,4),([c,d],0,65535)] (λl=>Am 130 0 (l.getD 0 0) (l.getD 1 0) (l.getD 2 0) 0 0):=by kernel_rfl
theorem avJ:Al 6 [132,a,b,c,d,x] us e K=An [132,a,b,c,d,x] us K [([a,b,c,d],0,4294967295),([x],0,255)] (λl=>Am 132 (l.getD 0 0) 0 0 0 (l.getD 1 0) 0):=by kernel_rfl
theorem avK:Al 3 [133,a,b] us e K=An [133,a,b] us K [([a,b],0,65535)] (λl=>Am 133 0 0 0 (l.getD 0 0) 0 0):=by kernel_rfl
theorem avL:Al 4 [134,a,b,c] us e K=An [134,a,b,c] us K [([a],0,4),([b,c],0,65535)] (λl=>Am 134 0 0 (l.getD 0 0) (l.getD 1 0) 0 0):=by kernel_rfl
theorem avM:Al 4 [135,a,b,c] us e K=An [135,a,b,c] us K [([a],0,4),([b,c],0,65535)] (λl=>Am 135 0 0 (l.getD 0 0) (l.getD 1 0) 0 0):=by kernel_rfl
theorem avN:Al 3 [136,a,b] us e K=An [136,a,b] us K [([a],0,4),([b],0,255)] (λl=>Am 136 0 0 (l.getD 0 0) 0 (l.getD 1 0) 0):=by kernel_rfl
end
theorem CX {s b:Int} (hs:0<=s/\s<2^56) (hb:0<=b/\b<=255):bits .or .u64 (u64.wrap (s*2^8)) (u64.wrap b)=s*256+b:=by
 rw[show u64.wrap b=b by rw[s9];omega];exact Eu s b hs (by omega)
theorem WZ {a:Int} (ha:0<=a/\a<=255):pD [a]=a:=by
 unfold pD;simp only[sZ,Yx];rw[CX (by omega) ha,kQ (by omega)];omega
theorem afk {a b:Int} (ha:0<=a/\a<=255) (hb:0<=b/\b<=255):pD [a,b]=a*256+b:=by
 unfold pD;simp only[sZ,Yx];rw[CX (by omega) ha,CX (by omega) hb,kQ (by omega)];omega
theorem afl {a b c d:Int} (ha:0<=a/\a<=255) (hb:0<=b/\b<=255) (hc:0<=c/\c<=255) (hd:0<=d/\d<=255):pD [a,b,c,d]=((a*256+b)*256+c)*256+d:=by
 unfold pD;simp only[sZ,Yx];rw[CX (by omega) ha,CX (by omega) hb,CX (by omega) hc,CX (by omega) hd,kQ (by omega)];omega
theorem oL (k:Nat) (x:Int) (j:Nat):0<=aN k x j/\aN k x j<=255:=by
 unfold aN;rw[yw];omega
theorem Ao {v:Int} (h:0<=v/\v<=255):pD [aN 1 (u64.wrap v) 0]=v:=by
 rw[WZ (oL _ _ _)];unfold aN;rw[show u64.wrap v=v by rw[s9];omega,yw,uB _ (by decide)];show v/1%256=v;omega
theorem Jx {v:Int} (h:0<=v/\v<=65535):pD [aN 2 (u64.wrap v) 0,aN 2 (u64.wrap v) 1]=v:=by
 rw[afk (oL _ _ _) (oL _ _ _)];unfold aN;rw[show u64.wrap v=v by rw[s9];omega,yw,yw,uB _ (by decide),uB _ (by decide)];show v/256%256*256+v/1%256=v;omega
theorem W0 {v:Int} (h:0<=v/\v<=4294967295):pD [aN 4 (u64.wrap v) 0,aN 4 (u64.wrap v) 1,aN 4 (u64.wrap v) 2,aN 4 (u64.wrap v) 3]=v:=by
 rw[afl (oL _ _ _) (oL _ _ _) (oL _ _ _) (oL _ _ _)];unfold aN;rw[show u64.wrap v=v by rw[s9];omega];simp only[yw];rw[uB _ (by decide),uB _ (by decide),uB _ (by decide),uB _ (by decide)];show((v/16777216%256*256+v/65536%256)*256+v/256%256)*256+v/1%256=v;omega
def trP:List (List Int×Int×Int)->List Int->Prop
 |[],[]=>True
 |(bs,lo,hi)::fs,v::vs=>(pD bs=v/\lo<=v/\v<=hi)/\trP fs vs
 |_,_=>False
theorem yd {bad:Prop} {Jw:List Int->Prop}:∀(fs:List (List Int×Int×Int)) (vs acc:List Int),trP fs vs->Jw (acc++vs)->Jv bad Jw fs acc
 |[],[],acc,_,hg=>by
  unfold Jv;simpa using hg
 |[],v::vs,acc,h,_=>h.elim
 |(bs,lo,hi)::fs,[],acc,h,_=>h.elim
 |(bs,lo,hi)::fs,v::vs,acc,h,hg=>by
  obtain⟨⟨h1,h2,h3⟩,hf⟩:=h;unfold Jv;rw[h1];refine aM (λe=>?_) (λ_=>aM (λe=>?_) (λ_=>yd fs vs _ hf (by simpa using hg)))
  ·have:=of_decide_eq_true e;omega
  ·have:=of_decide_eq_true e;omega
def OH (r:Sd.aF):List Int:=(bw (cU r)).map (kU r)
def iF (r:Sd.aF):List V:=[.int .i64 r.kind,.int .i64 r.seq,.int .i64 r.role,.int .i64 r.cX,.int .i64 r.ah,.int .i64 r.code,.int .u8 (r.aA 0),.int .u8 (r.aA 1),.int .u8 (r.aA 2),.int .u8 (r.aA 3),.int .u8 (r.aA 4),.int .u8 (r.aA 5),.int .u8 (r.aA 6),.int .u8 (r.aA 7)]
theorem CY {n:Nat} {l:List Int} {us:List ae} {e:Nat} {v0:V} (sO:cR 0 v0=true) (h:Hd (Al n l us e λv b c=>v=v0)) {w:ag} {b:Nat} (aP:w.heap[b]?=some (.cells (l.map (λx=>eA .u8 x)++us).toArray 5 (0,0))):
 aV prog 49 #[.slice (some ⟨b,0,none⟩) n (e+n)] w λv w'=>v=den [] v0/\Ch [] w w':=by
 have hd:∀l:List Int,ai [b] (l.map (λx=>V.int .u8 x)++[.rest us])=l.map (λx=>eA .u8 x)++us:=by
  intro l;induction l with
  |nil=>simp only[s8,fi,ai,cl,cH]
  |cons x l ih=>simp only[eF,fe,ai,cl,den,ih,fi]
 have S:St [] w (lits [b] [b] (Ak l us)++aC ([]:List Empty) []) w:=by
  refine St.OF ?_;intro y hy;simp only[Ak,lits,aC,cH,cn,pN,or_false]at hy;subst hy;refine⟨rfl,aP.trans ?_⟩;simp only[aD,hd]
 have hok:aI (G:=Empty) prog de []:=aI.nil;refine(eO (C:=fW prog de ([]:List (bR Empty)) (Fh prog) OB) hok.T hok.Q 60 (ids:=[b]) (λg i h=>by cases h) rfl S h.h).mono ?_;rintro v w' ⟨y,more,bl',ch',rfl,h1,S',hK⟩;obtain⟨v2,cJ,bl2,Ap,-,S2,qA⟩:=iB (n0:=1) h1 (by simp) S' hK;obtain rfl:v2=v0:=qA;refine⟨?_,S2.ch⟩;rw[Ap];have:=gf (ids:=[]) (more:=List.take 1 ([b]++more)++cJ) v2 sO;simpa using this
theorem avO (r:Sd.aF) (h:RB r) (h9:r.kind≠129) {us:List ae} {e:Nat} {w:ag} {b:Nat} (aP:w.heap[b]?=some (.cells ((OH r).map (λx=>eA .u8 x)++us).toArray 5 (0,0))):
 aV prog 49 #[.slice (some ⟨b,0,none⟩) (cU r) (e+cU r)] w λv w'=>v=den [] (.av [.agg (iF r),.int .i64 0])/\Ch [] w w':=by
 have hk:r.kind=130\/r.kind=131\/r.kind=132\/r.kind=133\/r.kind=134\/r.kind=135\/r.kind=136:=by have:=h.kind;omega
 obtain⟨k,sq,ro,wh,ep,co,nc⟩:=r;obtain⟨_,⟨s1,s2⟩,⟨r1,r2⟩,⟨w1,w2⟩,⟨e1,e2⟩,⟨c1,c2⟩,⟨n1,n2⟩⟩:=h;simp only at*;rcases hk with rfl|rfl|rfl|rfl|rfl|rfl|rfl<;>simp at s2 r2 w2 e2 c2 n2<;>subst_vars
 ·exact CY (n:=5) (l:=[130,aN 1 (u64.wrap ro) 0,aN 1 (u64.wrap wh) 0,aN 2 (u64.wrap ep) 0,aN 2 (u64.wrap ep) 1]) rfl ⟨by rw[avI];exact yd _ [ro,wh,ep] [] ⟨⟨Ao (by omega),r1⟩,⟨Ao ⟨w1.1,by have:=w1.2;omega⟩,w1⟩,⟨Jx e1,e1⟩,trivial⟩ rfl⟩ aP
 ·exact CY (n:=5) (l:=[131,aN 4 (u64.wrap sq) 0,aN 4 (u64.wrap sq) 1,aN 4 (u64.wrap sq) 2,aN 4 (u64.wrap sq) 3]) rfl ⟨by rw[avH];exact yd _ [sq] [] ⟨⟨W0 s1,s1⟩,trivial⟩ rfl⟩ aP
 ·exact CY (n:=6) (l:=[132,aN 4 (u64.wrap sq) 0,aN 4 (u64.wrap sq) 1,aN 4 (u64.wrap sq) 2,aN 4 (u64.wrap sq) 3,aN 1 (u64.wrap co) 0]) rfl ⟨by rw[avJ];exact yd _ [sq,co] [] ⟨⟨W0 s1,s1⟩,⟨Ao c1,c1⟩,trivial⟩ rfl⟩ aP
 ·exact CY (n:=3) (l:=[133,aN 2 (u64.wrap ep) 0,aN 2 (u64.wrap ep) 1]) rfl ⟨by rw[avK];exact yd _ [ep] [] ⟨⟨Jx e1,e1⟩,trivial⟩ rfl⟩ aP
 ·exact CY (n:=4) (l:=[134,aN 1 (u64.wrap wh) 0,aN 2 (u64.wrap ep) 0,aN 2 (u64.wrap ep) 1]) rfl ⟨by rw[avL];exact yd _ [wh,ep] [] ⟨⟨Ao ⟨w1.1,by have:=w1.2;omega⟩,w1⟩,⟨Jx e1,e1⟩,trivial⟩ rfl⟩ aP
 ·exact CY (n:=4) (l:=[135,aN 1 (u64.wrap wh) 0,aN 2 (u64.wrap ep) 0,aN 2 (u64.wrap ep) 1]) rfl ⟨by rw[avM];exact yd _ [wh,ep] [] ⟨⟨Ao ⟨w1.1,by have:=w1.2;omega⟩,w1⟩,⟨Jx e1,e1⟩,trivial⟩ rfl⟩ aP
 ·exact CY (n:=3) (l:=[136,aN 1 (u64.wrap wh) 0,aN 1 (u64.wrap co) 0]) rfl ⟨by rw[avN];exact yd _ [wh,co] [] ⟨⟨Ao ⟨w1.1,by have:=w1.2;omega⟩,w1⟩,⟨Ao c1,c1⟩,trivial⟩ rfl⟩ aP
def Aq (j:Nat):List V:=[.int .i64 1,.int .i64 0,.int .i64 255,.fn 173 [] [.ptr j 0],.fn 174 [] [.ptr j 0]]
def W3 (u:List ae):VB:=⟨true,⟨175,(0,0)⟩,Aq 4++(Aq 5++(Aq 6++(Aq 7++(Aq 8++(Aq 9++(Aq 10++(Aq 11++[.rest u])))))))⟩
def W4:List VB:=(bw 8).map λj=>⟨true,⟨220,(0,0)⟩,[.ptr 2 (6+j)]⟩
def Jy:dc Empty:=λargs bl ch K=>match args,bl with
 |[.ptr 2 0],[b0,b1,⟨true,⟨40,(0,0)⟩,c⟩]=>cond (bM 3 [b0,b1]) (∃nc,c=oK nc/\∀(k:Nat) (u:List ae),8<=k->K (.av [.sl 3 0 8 k,.bool true]) ([b0,b1]++(yc nc::W3 u::W4)) ch) False
 |_,_=>False
theorem avP:Sound prog (λ_=>none) 76 Jy:=by
 intro args ids bl ch R ms w0 w K hg hl S hc;unfold Jy at hc;split at hc
 ·rename_i b0 b1 c;cases hw:bM 3 [b0,b1]with
  |false=>rw[hw]at hc;exact hc.elim
  |true=>
   rw[hw]at hc;obtain⟨nc,rfl,hK⟩:=hc
   match ids,hl with
   |[x0,x1,r],OI=>
    have S1:St ms w0 (lits [r] [r] [yc nc]++([aD [x0,x1,r] x0 b0,aD [x0,x1,r] x1 b1]++aC ch R)) w:=by
     have e:lits [x0,x1,r] [x0,x1,r] [b0,b1,⟨true,⟨40,(0,0)⟩,oK nc⟩]=[aD [x0,x1,r] x0 b0,aD [x0,x1,r] x1 b1,aD [r] r (yc nc)]:=rfl;rw[e]at S;exact S.perm (ij λf=>by simp only[lits,iI,AP,AR];omega)
    have hv:qp (Fk 60 76 [.ptr 0 0] [yc nc] (bA 1 λv b _=>∃k u,v=.av [.sl 1 0 8 k,.bool true]/\b=mu nc u/\8<=k)):=⟨by rw[afd];exact λc u h1 h2=>WE 7 1 c u h1 h2 λk u h _=>⟨k,u,rfl,rfl,h⟩⟩;have hr:=WH hv (ids:=[r]) rfl (by simp) S1;clear hv;refine hr.mono ?_;rintro v w' ⟨x,more,b,rfl,h1,S2,k,u,rfl,rfl,h8⟩;have hm:more.length=9:=by simpa[mu,Jq]using h1
    match more,hm with
    |[m0,m1,m2,m3,m4,m5,m6,m7,m8],_=>
     refine⟨.av [.sl 3 0 8 k,.bool true],[m0,m1,m2,m3,m4,m5,m6,m7,m8],[b0,b1]++(yc nc::W3 u::W4),ch,rfl,rfl,?_,hK k u h8⟩;have e2:lits ([x0,x1,r]++[m0,m1,m2,m3,m4,m5,m6,m7,m8]) ([x0,x1,r]++[m0,m1,m2,m3,m4,m5,m6,m7,m8]) ([b0,b1]++(yc nc::W3 u::W4))=lits ([x0,x1,r]++[m0,m1,m2,m3,m4,m5,m6,m7,m8]) [x0,x1] [b0,b1]++lits ([r]++[m0,m1,m2,m3,m4,m5,m6,m7,m8]) ([r]++[m0,m1,m2,m3,m4,m5,m6,m7,m8]) (mu nc u):=rfl;rw[e2,fD (ids:=[x0,x1,r]) [x0,x1] [b0,b1] hw];have S3:St ms w0 (lits ([r]++[m0,m1,m2,m3,m4,m5,m6,m7,m8]) ([r]++[m0,m1,m2,m3,m4,m5,m6,m7,m8]) (mu nc u)++([aD [x0,x1,r] x0 b0,aD [x0,x1,r] x1 b1]++aC ch R)) w':=S2;generalize lits ([r]++[m0,m1,m2,m3,m4,m5,m6,m7,m8]) ([r]++[m0,m1,m2,m3,m4,m5,m6,m7,m8]) (mu nc u)=L at S3⊢;refine S3.perm (ij λf=>?_);simp only[lits,iI,AP,AR];omega
 ·exact hc.elim
def trU (n:Nat) (l:List Int) (us:List ae) (e:Nat) (K:VK Empty):Prop:=br (bZ prog (λ_=>none) [⟨76,false,Jy⟩]) 60 49 [.sl 0 0 n (e+n)] (Ak l us) [] (bA 1 K)
def W5 (l:List Int):V:=.av [.agg ([.int .i64 129,.int .i64 0,.int .i64 0,.int .i64 0,.int .i64 0,.int .i64 0]++l.map λx=>.int .u8 (u8.wrap x)),.int .i64 0]
section
variable(a b c d a' b' c' d':Int) (us:List ae) (e:Nat) (K:VK Empty)
theorem avQ:trU 9 [129,a,b,c,d,a',b',c',d'] us e K=∃nc,oK (λ_=>0)=oK nc/\∀(k:Nat) (u:List ae),8<=k->An [129,a,b,c,d,a',b',c',d'] us K [([a],0,255),([b],0,255),([c],0,255),([d],0,255),([a'],0,255),([b'],0,255),([c'],0,255),([d'],0,255)] W5:=by kernel_rfl
end
theorem avR {n:Nat} {l:List Int} {us:List ae} {e:Nat} {v0:V} (sO:cR 0 v0=true) (h:Hd (trU n l us e λv b c=>v=v0)) {w:ag} {b:Nat} (aP:w.heap[b]?=some (.cells (l.map (λx=>eA .u8 x)++us).toArray 5 (0,0))):
 aV prog 49 #[.slice (some ⟨b,0,none⟩) n (e+n)] w λv w'=>v=den [] v0/\Ch [] w w':=by
 have hd:∀l:List Int,ai [b] (l.map (λx=>V.int .u8 x)++[.rest us])=l.map (λx=>eA .u8 x)++us:=by
  intro l;induction l with
  |nil=>simp only[s8,fi,ai,cl,cH]
  |cons x l ih=>simp only[eF,fe,ai,cl,den,ih,fi]
 have S:St [] w (lits [b] [b] (Ak l us)++aC ([]:List Empty) []) w:=by
  refine St.OF ?_;intro y hy;simp only[Ak,lits,aC,cH,cn,pN,or_false]at hy;subst hy;refine⟨rfl,aP.trans ?_⟩;simp only[aD,hd]
 have hok:aI (G:=Empty) prog (λ_=>none) [⟨76,false,Jy⟩]:=aI.cons ⟨avP,λe=>by cases e⟩ aI.nil;refine(eO (C:=bZ prog (λ_=>none) [⟨76,false,Jy⟩]) hok.T hok.Q 60 (ids:=[b]) (λg i h=>by cases h) rfl S h.h).mono ?_;rintro v w' ⟨y,more,bl',ch',rfl,h1,S',hK⟩;obtain⟨v2,cJ,bl2,Ap,-,S2,qA⟩:=iB (n0:=1) h1 (by simp) S' hK;obtain rfl:v2=v0:=qA;refine⟨?_,S2.ch⟩;rw[Ap];have:=gf (ids:=[]) (more:=List.take 1 ([b]++more)++cJ) v2 sO;simpa using this
theorem avS (r:Sd.aF) (h:RB r) {us:List ae} {e:Nat} {w:ag} {b:Nat} (aP:w.heap[b]?=some (.cells ((OH r).map (λx=>eA .u8 x)++us).toArray 5 (0,0))):
 aV prog 49 #[.slice (some ⟨b,0,none⟩) (cU r) (e+cU r)] w λv w'=>v=den [] (.av [.agg (iF r),.int .i64 0])/\Ch [] w w':=by
 by_cases h9:r.kind=129
 ·obtain⟨k,sq,ro,wh,ep,co,nc⟩:=r;obtain⟨_,⟨s1,s2⟩,⟨r1,r2⟩,⟨w1,w2⟩,⟨e1,e2⟩,⟨c1,c2⟩,⟨n1,n2⟩⟩:=h;simp only at*;subst h9;simp at s2 r2 w2 e2 c2 n2
  subst_vars
  have hw:∀j,u8.wrap (nc j)=nc j:=λj=>by have:=n1 j;rw[yw];omega
  have hn:∀j,pD [nc j]=nc j/\0<=nc j/\nc j<=255:=λj=>⟨WZ (n1 j),n1 j⟩;exact avR (n:=9) (l:=[129,nc 0,nc 1,nc 2,nc 3,nc 4,nc 5,nc 6,nc 7]) rfl ⟨by
   rw[avQ];exact⟨λ_=>0,rfl,λ_ _ _=>yd _ [nc 0,nc 1,nc 2,nc 3,nc 4,nc 5,nc 6,nc 7] [] ⟨hn 0,hn 1,hn 2,hn 3,hn 4,hn 5,hn 6,hn 7,trivial⟩ (by
    show W5 _=_;simp only[W5,fi,eF,s8,hw];rfl)⟩⟩ aP
 ·exact avO r h h9 aP
theorem avT (op:BinOp) (a b:Int):0<=bits op .u16 a b/\bits op .u16 a b<=65535:=by
 unfold bits;rw[Kh];omega
theorem avU (x:Int):0<=zB x/\zB x<=65535:=by
 unfold zB;cases(bits .and .u16 x 32768!=0)with
 |true=>exact avT .xor (u16.wrap (x*2^1)) 4129
 |false=>
  simp only[cond_false];rw[Kh];omega
theorem avV (f:Nat->Int):∀n,0<=jZ f n/\jZ f n<=65535
 |0=>⟨(by decide:(0:Int)<=65535),(by decide:(65535:Int)<=65535)⟩
 |n+1=>avU _
theorem afm {f g:Nat->Int}:∀n,(∀j,j<n->f j=g j)->jZ f n=jZ g n
 |0,_=>rfl
 |n+1,h=>by
  show Er (jZ f n) (f n)=Er (jZ g n) (g n);rw[afm n (λj hj=>h j (by omega)),h n (by omega)]
theorem avW {x:Int} (hx:0<=x/\x<=65535):bits .or .u16 (u16.wrap (u16.wrap (u8.wrap (jx x (2^8)))*2^8)) (u16.wrap (u8.wrap x))=x:=by
 have e1:u8.wrap (jx x (2^8))=x/256:=by
  rw[yw,uB _ (by decide)];show x/256%256=x/256;omega
 have e2:u8.wrap x=x%256:=yw x;have e3:u16.wrap (u16.wrap (x/256)*2^8)=x/256*256:=by
  rw[Kh,Kh];omega
 have e4:u16.wrap (x%256)=x%256:=by rw[Kh];omega
 rw[e1,e2,e3,e4];obtain⟨a,ha⟩:∃a:Nat,x/256=a:=⟨(x/256).toNat,by omega⟩;obtain⟨b,hb⟩:∃b:Nat,x%256=b:=⟨(x%256).toNat,by omega⟩;have uM:a<256:=by omega
 have wk:b<256:=by omega
 rw[ha,hb];unfold bits;have h1:(oP 16 ((a:Int)*256)).toNat=a*256:=by simp only[J7];omega
 have h2:(oP 16 (b:Int)).toNat=b:=by simp only[J7];omega
 have h3:(a*256|||b)=a*256+b:=by
  have:=Nat.shiftLeft_add_eq_or_of_lt (i:=8) (b:=b) (by omega) a;rw[Nat.shiftLeft_eq]at this;exact this.symm
 show u16.wrap (((oP 16 ((a:Int)*256)|||oP 16 (b:Int)).toNat:Nat):Int)=_;rw[BitVec.toNat_or,h1,h2,h3,Kh];omega
def Jz (n:Nat) (f:Nat->Int):Int:=jZ (A7 (cA 3 (dm [165,1,n]) f) 1) (3+n-1)
def qV (n:Nat) (f:Nat->Int):Int:=u8.wrap (jx (Jz n f) (2^8))
def qW (n:Nat) (f:Nat->Int):Int:=u8.wrap (Jz n f)
def Ar (n:Nat):Prop:=n=3\/n=4\/n=5\/n=6\/n=9
theorem avX {n:Nat} (h:Ar n) (cr:(Nat->Int)->Nat->Int) (f:Nat->Int) (hi lo:Int) (us:List ae) (d:Nat) (K:VK Empty):CS cr n f hi lo us d K=CR cr n f hi lo us d K:=by
 rcases h with rfl|rfl|rfl|rfl|rfl
 ·exact auY ..
 ·exact auZ ..
 ·exact au0 ..
 ·exact au1 ..
 ·exact au2 ..
theorem avY {n:Nat} (h:Ar n) (f:Nat->Int):(bw (n+5)).map (ov n f)=OC n f (qV n f) (qW n f):=by
 rcases h with rfl|rfl|rfl|rfl|rfl<;>rfl
theorem avZ {n:Nat} (h:Ar n) (f:Nat->Int) (hi lo:Int) (us:List ae):∀j,j<n+2->mr (oI n f hi lo us) 1 j=A7 (cA 3 (dm [165,1,n]) f) 1 j:=by
 have e:(bw (n+2)).map (mr (oI n f hi lo us) 1)=(bw (n+2)).map (A7 (cA 3 (dm [165,1,n]) f) 1):=by
  rcases h with rfl|rfl|rfl|rfl|rfl<;>rfl
 intro j hj;have:=congrArg (λl=>l[j]?) e;simpa[nV hj]using this
theorem av0 {n:Nat} (h:Ar n) (f:Nat->Int) (hi lo:Int) (us:List ae):∀j,j<n->mr (oI n f hi lo us) 3 j=f j:=by
 have e:(bw n).map (mr (oI n f hi lo us) 3)=(bw n).map f:=by
  rcases h with rfl|rfl|rfl|rfl|rfl<;>rfl
 intro j hj;have:=congrArg (λl=>l[j]?) e;simpa[nV hj]using this
theorem av1 {n:Nat} (h:Ar n) (f:Nat->Int) (us:List ae) (d:Nat) {K:VK Empty} (hK:∀e:Nat,K (.agg [.int .i64 2,.int .i64 ((n+5:Nat):Int),.int .i64 0,.sl 1 0 n (n+e)]) (Ai n f (qV n f) (qW n f) us++[dF n e (mr (oI n f (qV n f) (qW n f) us) 3)]) []):CR jZ n f (qV n f) (qW n f) us d K:=by
 have e1:jZ (mr (oI n f (qV n f) (qW n f) us) 1) (n+2)=Jz n f:=by
  unfold Jz;rw[afm (n+2) (avZ h f _ _ us),show 3+n-1=n+2 by omega]
 have e2:=avW (avV (A7 (cA 3 (dm [165,1,n]) f) 1) (3+n-1));have hn:0<n/\n<=9:=by unfold Ar at h;omega
 refine⟨trivial,aM (λe=>?_) (λ_=>⟨⟨hn.1,by omega,by omega⟩,hK⟩)⟩;rw[e1]at e;have:(bits .or .u16 (u16.wrap (u16.wrap (qV n f)*2^8)) (u16.wrap (qW n f)))=Jz n f:=e2;rw[this]at e;simp at e
theorem av2 (r:Sd.aF):Ar (cU r):=afg r
theorem av3 {n c:Nat} {f g:Nat->Int} (h:∀j,j<n->f j=g j):bI n f c=bI n g c:=by
 have e:b9 n f=b9 n g:=pI λj hj=>by rw[h j (List.mem_range.1 hj)]
 unfold bI;rw[e]
theorem av4 {ids:List Nat} (n:Nat) (f:Nat->Int) (hi lo:Int) (us:List ae):ai ids (oI n f hi lo us)=(OC n f hi lo).map (λx=>eA .u8 x)++us:=by
 unfold oI;generalize OC n f hi lo=l;induction l with
 |nil=>simp only[s8,fi,ai,cl,cH]
 |cons x l ih=>simp only[eF,fe,ai,cl,den,ih,fi]
theorem av5 {n:Nat} (hn:Ar n) (f:Nat->Int) {w:ag} {b c:Nat} (hc:n+5<=c) (aP:w.heap[b]?=some (.cells (bI (n+5) (ov n f) c) 5 (0,0))):
 aV prog 48 #[.slice (some ⟨b,0,none⟩) (n+5) c] w λv w'=>∃b2 e,v=.agg #[.int .i64 2,.int .i64 ((n+5:Nat):Int),.int .i64 0,.slice (some ⟨b2,0,none⟩) n (n+e)]/\w.heap.size<=b2/\w'.heap[b2]?=some (.cells (bI n f (n+e)) 5 (0,0))/\Ch [] w w':=by
 obtain⟨d,rfl⟩:∃d,c=d+(n+5):=⟨c-(n+5),by omega⟩
 let us:List ae:=nh (d+(n+5)-(n+5)) (.int .u8 0)
 have S:St [] w (lits [b] [b] (Ai n f (qV n f) (qW n f) us)++aC ([]:List Empty) []) w:=by
  refine St.OF ?_;intro y hy;simp only[Ai,lits,aC,cH,cn,pN,or_false]at hy;subst hy;refine⟨rfl,aP.trans ?_⟩;simp only[aD,av4,<-avY hn f];unfold bI b9;rw[lQ];rfl
 have cS:Hd (CS jZ n f (qV n f) (qW n f) us d λv bl _=>∃e,v=.agg [.int .i64 2,.int .i64 ((n+5:Nat):Int),.int .i64 0,.sl 1 0 n (n+e)]/\bl=Ai n f (qV n f) (qW n f) us++[dF n e (mr (oI n f (qV n f) (qW n f) us) 3)]):=⟨by
  rw[avX hn];exact av1 hn f us d λe=>⟨e,rfl,rfl⟩⟩
 have hok:aI (G:=Empty) prog de (qL Empty [Jp jZ]):=kj (bO.cons (auX _) bO.nil);refine(eO (C:=fW prog de (qL Empty [Jp jZ]) (Fh prog) OB) hok.T hok.Q 60 (ids:=[b]) (λg i h=>by cases h) rfl S cS.h).mono ?_;rintro v w' ⟨y,more,bl',ch',rfl,h1,S',hK⟩;obtain⟨v2,cJ,bl2,Ap,dv,S2,e,rfl,rfl⟩:=iB (n0:=1) h1 (by simp) S' hK;have ht:List.take 1 ([b]++more)=[b]:=rfl;rw[ht]at Ap dv S2;have hm:cJ.length=1:=by simpa[Ai]using dv
 match cJ,hm with
 |[x],_=>
  have jD:aD ([b]++[x]) x (dF n e (mr (oI n f (qV n f) (qW n f) us) 3))=⟨x,true,.cells (bI n f (n+e)) 5 (0,0)⟩:=by
   unfold aD;rw[xT,av3 (av0 hn f _ _ us)];rfl
  have S3:St [] w ([aD ([b]++[x]) b ⟨false,⟨5,(0,0)⟩,oI n f (qV n f) (qW n f) us⟩,aD ([b]++[x]) x (dF n e (mr (oI n f (qV n f) (qW n f) us) 3))]++aC ch' []) w':=S2;rw[jD]at S3;refine⟨x,e,?_,(S3.own 1 _ rfl rfl).resolve_left (by simp),S3.at_ 1 _ rfl,S3.ch⟩;rw[Ap];rfl
def E4:dc (LG bN):=λargs bl ch K=>match args,ch with
 |[.raw (.slice x n c)],.a_ u::.core g fB::rest=>cond (bM bl.length bl) (∃(r:Sd.aF) (b:List aj),(n=cU r+5/\ff 5 n (ov (cU r) (kU r)) x c b/\∀y∈b,y∈fB)/\
  ∀d:Nat,K (.agg [.int .i64 2,.int .i64 ((cU r+5:Nat):Int),.int .i64 0,.sl bl.length 0 (cU r) (cU r+d)]) (bl++[dF (cU r) d (kU r)]) (.a_ u::.core g fB::rest)) False
 |_,_=>False
theorem av6 {gl:Nat->Option Nat}:Sound prog gl 48 E4:=by
 intro args ids bl ch R ms w0 w K hg hl S hc;unfold E4 at hc;split at hc
 ·rename_i x n c u g fB rest;cases hq:bM bl.length bl with
  |false=>rw[hq]at hc;exact hc.elim
  |true=>
   rw[hq]at hc;obtain⟨r,b,⟨rfl,hr,hb⟩,hK⟩:=hc;rcases hr.2 with⟨_,h0,_,_⟩|⟨bk,rfl,rfl⟩
   ·omega
   ·have aP:w.heap[bk]?=some (.cells (bI (cU r+5) (ov (cU r) (kU r)) c) 5 (0,0)):=S.at' (x:=⟨bk,true,.cells (bI (cU r+5) (ov (cU r) (kU r)) c) 5 (0,0)⟩) (by
     have:=hb _ De;refine uy _ ?_;show _∈dR u++((g.F.B++fB)++aC rest R);exact uy _ (pJ _ (uy _ this)))
    have ha:(aH ids [.raw (.slice (some ⟨bk,0,none⟩) (cU r+5) c)]).toArray=#[.slice (some ⟨bk,0,none⟩) (cU r+5) c]:=rfl;rw[ha];refine(av5 (av2 r) (kU r) hr.1 aP).mono ?_;rintro v w' ⟨b2,e,rfl,eG,oX,cB⟩;refine⟨_,[b2],_,_,?_,by simp[hl],?_,hK e⟩
    ·simp only[den,ai,cl,fe,fi,cH];rw[<-hl,kZ]
    ·have em:aD (ids++[b2]) b2 (dF (cU r) e (kU r))=⟨b2,true,.cells (bI (cU r) (kU r) (cU r+e)) 5 (0,0)⟩:=by
      unfold aD;rw[xT];rfl
     rw[fC _ _ _ _ hl,fD _ _ (by rw[hl];exact hq)];simp only[lits,em];refine(S.new cB eG oX).perm ?_;rw[bU];exact jU.symm
 ·exact hc.elim
def JA {G:Type}:dc G:=λargs bl ch K=>match args with
 |[.sl i 0 n c]=>(match bl[i]?with
  |some ⟨_,⟨5,(0,0)⟩,[.bS .u8 n' f,.bS .u8 d z]⟩=>∃r:Sd.aF,(RB r/\n=cU r/\n'=cU r/\f=kU r/\c=cU r+d/\z=mY)/\K (.av [.agg (iF r),.int .i64 0]) bl ch
  |_=>False)
 |_=>False
theorem av7 (r:Sd.aF):cR 0 (.av [.agg (iF r),.int .i64 0])=true:=rfl
theorem av8 {G:Type} [Bl G] {gl:Nat->Option Nat}:Sound (G:=G) prog gl 49 JA:=by
 intro args ids bl ch R ms w0 w K hg hl S hc;unfold JA at hc;split at hc
 ·rename_i i n c;split at hc
  ·rename_i wr n' f d z hb;obtain⟨r,⟨hr,rfl,rfl,rfl,rfl,rfl⟩,hK⟩:=hc;have aP:=(fV hl S hb).2;have hd:ai ids [V.bS .u8 (cU r) (kU r),.bS .u8 d mY]=(OH r).map (λx=>eA .u8 x)++(bw d).map (λj=>eA .u8 (mY j)):=by
    simp only[ai,cl,cH,OH,lQ];rfl
   rw[hd]at aP;have ha:(aH ids [.sl i 0 (cU r) (cU r+d)]).toArray=#[.slice (some ⟨ids.getD i 0,0,none⟩) (cU r) (d+cU r)]:=by
    rw[Nat.add_comm d];rfl
   rw[ha];refine(avS r hr aP).mono ?_;rintro v w' ⟨rfl,cB⟩;refine⟨.av [.agg (iF r),.int .i64 0],[],bl,ch,?_,by simpa using hl,by simpa using S.quiet cB,hK⟩;have:=gf (ids:=[]) (more:=ids++[]) (.av [.agg (iF r),.int .i64 0]) (av7 r);simpa using this.symm
  ·exact hc.elim
 ·exact hc.elim
theorem av9 {G:Type}:ia (JA (G:=G)):=by
 intro args bl ch K hc;unfold JA at hc⊢;split at hc
 ·split at hc
  ·obtain⟨r,h,hK⟩:=hc;exact⟨r,h,hK,[],by simp⟩
  ·exact hc.elim
 ·exact hc.elim
theorem av_:ia E4:=by
 intro args bl ch K hc;unfold E4 at hc⊢;split at hc
 ·revert hc;cases bM bl.length bl with
  |false=>exact λh=>h.elim
  |true=>
   rintro⟨r,b,h,hK⟩;exact⟨r,b,h,λd=>⟨hK d,_,rfl⟩⟩
 ·exact hc.elim
end
end Go.Proofs.YtggfpcggakghnaaGreatDoor
namespace Sd
variable{C:aK} {s:aa} {c:Core} {l:List (Int×aF)}
def aa.at_ (s:aa) (c:Core) (l:List (Int×aF)):Prop:=(∃x,s.c={c with head:=x})/\s.bg=l
theorem OJ (c:Core) (l:List (Int×aF)) (x:ao) (r:List Rec):(aa.mk {c with head:=x} l r).at_ c l:=⟨⟨x,rfl⟩,rfl⟩
theorem kV (h:s.at_ c l):∃x r,s=⟨{c with head:=x},l,r⟩:=by
 obtain⟨⟨x,hx⟩,hl⟩:=h;obtain⟨sc,ss,sr⟩:=s;simp only at hx hl;exact⟨x,sr,by rw[hx,hl]⟩
theorem OK (h:s.at_ c l) (k:Int) (r:aF):(s.tell k r).at_ c (l++[(k,r)]):=by
 obtain⟨x,q,rfl⟩:=kV h;exact⟨⟨x,rfl⟩,rfl⟩
theorem vG (h:s.at_ c l) (k so n co w:Int):(s.record C k so n co w).at_ c l:=by
 obtain⟨x,q,rfl⟩:=kV h;exact⟨⟨_,rfl⟩,rfl⟩
theorem afn (h:s.at_ c l) (k n e:Int):(s.refuse C k n e).at_ c (l++[(k,{kind:=132,seq:=n,code:=e})]):=vG (OK h _ _) _ _ _ _ _
theorem afo (h:s.at_ c l) (k n:Int):(s.done k n).at_ c (l++[(k,{kind:=131,seq:=n})]):=OK h _ _
def heard (af:aw) (k:Int) (r:aF):List (Int×aF):=if linked k&&af.on k then[(k,r)]else[]
theorem JB (h:s.at_ c l) (k:Int) (r:aF):(s.dP k r).at_ c (l++heard c.af k r):=by
 obtain⟨x,q,rfl⟩:=kV h;unfold aa.dP heard;show aa.at_ (if(linked k&&c.af.on k)=true then _ else _) _ _;split
 ·exact⟨⟨x,rfl⟩,rfl⟩
 ·exact⟨⟨x,rfl⟩,by simp⟩
theorem afp (h:s.at_ c l) (t:Tok) (how n:Int):(s.goes C t how n).at_ {c with t:=t,q:=Q.drop c.q t.aG} (l++heard c.af c.t.aG {kind:=134,cX:=t.aG,ah:=t.ah}++heard c.af t.aG {kind:=133,ah:=t.ah}):=by
 obtain⟨x,q,rfl⟩:=kV h;unfold aa.goes;dsimp only;exact vG (JB (JB (OJ {c with t:=t,q:=Q.drop c.q t.aG} l x q) _ _) _ _) _ _ _ _ _
def uh (c:Core) (k:Int) (d:eC):Core:={c with doors:=λj=>if j=k.toNat-1 then d else c.doors j}
theorem awa (h:s.at_ c l) {k:Int} {m:a9} {N:Nat} {f:ao} (ht:C.take N f=some m) (hr:jf c.p k m.role=true) (hm:(c.doors (k.toNat-1)).many<4294967295):
 (s.lC C k N f).at_ (uh c k ⟨(c.doors (k.toNat-1)).many+1,true,C.aA (c.p.k 3) k ((c.doors (k.toNat-1)).many+1)⟩) (l++[(k,{kind:=129,aA:=C.aA (c.p.k 3) k ((c.doors (k.toNat-1)).many+1)})]):=by
 obtain⟨x,q,rfl⟩:=kV h;unfold aa.lC;rw[ht];dsimp only;rw[if_neg (by rw[hr];decide),if_neg (by omega)];exact vG (OK ⟨⟨x,rfl⟩,rfl⟩ _ _) _ _ _ _ _
theorem awb (h:s.at_ c l) {k:Int} {m:a9} {f:ao} (ht:C.take 2 f=some m) (ho:(c.doors (k.toNat-1)).iA=true) (hr:C.right (c.p.k (k.toNat-1)) k m.role (c.doors (k.toNat-1)).aA (λj=>f (2+j))=true)
 (hk:jf c.p k m.role=true) {af:aw} {e:Int} (hb:aw.eL c.p c.af k m.role (C.key (c.p.k (k.toNat-1)) k m.role (c.doors (k.toNat-1)).aA)=(af,e)):
 (s.prove C k 10 f).at_ (if e≠0 then uh c k ⟨(c.doors (k.toNat-1)).many,false,λ_=>0⟩else{uh c k ⟨(c.doors (k.toNat-1)).many,false,λ_=>0⟩with af:=af})
  (l++[(k,if e≠0 then{kind:=132,seq:=0,code:=e}else{kind:=130,role:=m.role,cX:=c.t.aG,ah:=c.t.ah})]):=by
 obtain⟨x,q,rfl⟩:=kV h;unfold aa.prove;rw[if_neg (by decide),ht];dsimp only;rw[if_neg (by rw[ho];decide),if_neg (by rw[hr];decide),if_neg (by rw[hk];decide),hb];dsimp only;split
 ·exact afn ⟨⟨x,rfl⟩,rfl⟩ _ _ _
 ·exact vG (OK ⟨⟨x,rfl⟩,rfl⟩ _ _) _ _ _ _ _
def aw.eK (C:aK) (p:aO) (t:aw) (k n:Int):aw:=t.eD (k.toNat-1) {(t.ak (k.toNat-1))with seen:=C.fg (t.ak (k.toNat-1)).seen n,on:=true,cI:=.start p.bV}
theorem awc (h:s.at_ c l) {k:Int} {N:Nat} {f:ao} {m:a9} (h1:f 0≠1) (h2:f 0≠2) (ho:c.af.cj k=true) (hN:8<=N) (iW:C.opens (c.af.ak (k.toNat-1)).key k N f=true) (ht:C.take (N-8) f=some m)
 (k1:m.kind≠1) (k2:m.kind≠2) (hs:C.fg (c.af.ak (k.toNat-1)).seen m.seq≠(c.af.ak (k.toNat-1)).seen):
 ∃s':aa,s.item C k 0 N f=s'.jC C k m/\s'.at_ {c with af:=c.af.eK C c.p k m.seq} l:=by
 obtain⟨x,q,rfl⟩:=kV h;refine⟨⟨{{c with af:=c.af.eK C c.p k m.seq}with head:=x},l,q⟩,?_,OJ _ _ _ _⟩;have e:c.af.take C c.p k N f=(c.af.eK C c.p k m.seq,.ok m):=by
  unfold aw.take;rw[if_neg (by rw[ho];decide),if_neg (by rw[iW];simp;omega),ht];dsimp only;rw[if_neg (by omega),if_neg hs];rfl
 unfold aa.item;rw[if_neg (by decide),if_neg (by simp[h1]),if_neg (by simp[h2])];dsimp only;rw[e]
abbrev oM:=Core×List (Int×aF)
def Fl (c:Core) (k n e:Int):oM:=(c,[(k,{kind:=132,seq:=n,code:=e})])
def Fm (c:Core) (t:Tok):oM:=({c with t:=t,q:=Q.drop c.q t.aG},heard c.af c.t.aG {kind:=134,cX:=t.aG,ah:=t.ah}++heard c.af t.aG {kind:=133,ah:=t.ah})
def As (x:oM) (k n:Int):oM:=(x.1,x.2++[(k,{kind:=131,seq:=n})])
def pa (c:Core) (k:Int) (m:a9):oM:=
 let r:=fO c.p c.t c.p.queue c.q k m.now
 if r.2.2.1≠0 then Fl c k m.seq r.2.2.1
 else As (if 0<r.2.1 then Fm {c with q:=r.2.2.2} r.1 else({c with q:=r.2.2.2,t:=r.1},[])) k m.seq
def CZ (c:Core) (k:Int) (m:a9):oM:=
 let r:=Tok.make c.p c.t k m.aT (c.af.on m.aT)
 if r.2≠0 then Fl c k m.seq r.2 else As ({c with t:=r.1},heard c.af m.aT {kind:=135,cX:=k,ah:=r.1.ah}) k m.seq
def OL (c:Core) (k:Int) (m:a9):oM:=
 let r:=c.t.accept k m.ah
 if r.2≠0 then Fl c k m.seq r.2 else As (Fm c r.1) k m.seq
def OM (c:Core) (k:Int) (m:a9):oM:=
 let r:=dh c.t c.q k
 if r.2.1≠0 then Fl c k m.seq r.2.1 else As (Fm {c with q:=r.2.2} r.1) k m.seq
def ON (c:Core) (k:Int) (m:a9):oM:=
 let e:=mF c.p c.t k (c.af.role k) c.mode m
 if e≠0 then Fl c k m.seq e else As ({c with mode:=m.mode,d_:=⟨1,k,m.seq⟩},[]) k m.seq
def At (c:Core) (k:Int) (m:a9):oM:=
 if m.kind=3 then(c,[(k,{kind:=131,seq:=m.seq})])else if m.kind=5 then pa c k m else if m.kind=6 then CZ c k m else if m.kind=7 then OL c k m
 else if m.kind=9 then OM c k m else ON c k m
def aa.res (s:aa) (l:List (Int×aF)) (r:oM):Prop:=s.at_ r.1 (l++r.2)
theorem Fo {r:oM} (h:s.res l r) (k n:Int):(s.done k n).res l (As r k n):=by
 unfold aa.res As;rw[<-bU];exact afo h k n
theorem W6 (h:s.at_ c l) (t:Tok) (how n:Int):(s.goes C t how n).res l (Fm c t):=by
 unfold aa.res Fm;rw[<-bU];exact afp h t how n
theorem JC (h:s.at_ c l) (k n e:Int):(s.refuse C k n e).res l (Fl c k n e):=afn h k n e
theorem afq {c:Core} (h:s.at_ c l):s.res l (c,[]):=by
 show s.at_ c (l++[]);rw[cH];exact h
theorem awd (h:s.at_ c l) (k:Int) (m:a9):(s.ask C k m).res l (pa c k m):=by
 obtain⟨x,q,rfl⟩:=kV h;unfold aa.ask pa;dsimp only;generalize fO c.p c.t c.p.queue c.q k m.now=r;obtain⟨t,how,e,q2⟩:=r;dsimp only;split
 ·exact JC ⟨⟨x,rfl⟩,rfl⟩ _ _ _
 ·split
  ·exact Fo (W6 (c:={c with q:=q2}) ⟨⟨x,rfl⟩,rfl⟩ t how m.seq) k m.seq
  ·exact Fo (r:=({c with q:=q2,t:=t},[])) (afq (vG ⟨⟨x,rfl⟩,rfl⟩ _ _ _ _ _)) k m.seq
theorem awe (h:s.at_ c l) (k:Int) (m:a9):(s.offer C k m).res l (CZ c k m):=by
 obtain⟨x,q,rfl⟩:=kV h;unfold aa.offer CZ;dsimp only;generalize Tok.make c.p c.t k m.aT (c.af.on m.aT)=r;obtain⟨t,e⟩:=r;dsimp only;split
 ·exact JC ⟨⟨x,rfl⟩,rfl⟩ _ _ _
 ·exact Fo (r:=({c with t:=t},heard c.af m.aT {kind:=135,cX:=k,ah:=t.ah})) (vG (JB (c:={c with t:=t}) ⟨⟨x,rfl⟩,rfl⟩ _ _) _ _ _ _ _) k m.seq
theorem awf (h:s.at_ c l) (k:Int) (m:a9):(s.accept C k m).res l (OL c k m):=by
 obtain⟨x,q,rfl⟩:=kV h;unfold aa.accept OL;dsimp only;generalize c.t.accept k m.ah=r;obtain⟨t,e⟩:=r;dsimp only;split
 ·exact JC ⟨⟨x,rfl⟩,rfl⟩ _ _ _
 ·exact Fo (W6 (c:=c) ⟨⟨x,rfl⟩,rfl⟩ t 1 m.seq) k m.seq
theorem awg (h:s.at_ c l) (k:Int) (m:a9):(s.release C k m).res l (OM c k m):=by
 obtain⟨x,q,rfl⟩:=kV h;unfold aa.release OM;dsimp only;generalize dh c.t c.q k=r;obtain⟨t,e,q2⟩:=r;dsimp only;split
 ·exact JC ⟨⟨x,rfl⟩,rfl⟩ _ _ _
 ·exact Fo (W6 (c:={c with q:=q2}) ⟨⟨x,rfl⟩,rfl⟩ t 2 m.seq) k m.seq
theorem awh (h:s.at_ c l) (k:Int) (m:a9) (hm:m.kind=10):(s.command C k m).res l (ON c k m):=by
 obtain⟨x,q,rfl⟩:=kV h;unfold aa.command ON;dsimp only;rw[if_pos hm];split
 ·exact JC ⟨⟨x,rfl⟩,rfl⟩ _ _ _
 ·exact Fo (r:=({c with mode:=m.mode,d_:=⟨1,k,m.seq⟩},[])) (afq (vG ⟨⟨x,rfl⟩,rfl⟩ _ _ _ _ _)) k m.seq
theorem awi (h:s.at_ c l) (k:Int) (m:a9) (hm:m.kind=3\/m.kind=5\/m.kind=6\/m.kind=7\/m.kind=9\/m.kind=10):(s.jC C k m).res l (At c k m):=by
 unfold aa.jC At;rcases hm with e|e|e|e|e|e<;>simp only[e,if_true,if_false,AT,true_or]
 ·exact afo h _ _
 ·exact awd h _ _
 ·exact awe h _ _
 ·exact awf h _ _
 ·exact awg h _ _
 ·exact awh h _ _ e
def fp (C:aK) (c:Core) (k:Int) (m:a9):oM:=At {c with af:=c.af.eK C c.p k m.seq} k m
theorem awj (h:s.at_ c l) {k:Int} {N:Nat} {f:ao} {m:a9} (hf:f 0=m.kind) (ho:c.af.cj k=true) (hN:8<=N) (iW:C.opens (c.af.ak (k.toNat-1)).key k N f=true) (ht:C.take (N-8) f=some m)
 (hm:m.kind=3\/m.kind=5\/m.kind=6\/m.kind=7\/m.kind=9\/m.kind=10) (hs:C.fg (c.af.ak (k.toNat-1)).seen m.seq≠(c.af.ak (k.toNat-1)).seen):(s.item C k 0 N f).res l (fp C c k m):=by
 obtain⟨s',e,h'⟩:=awc h (by omega) (by omega) ho hN iW ht (by omega) (by omega) hs;rw[e];exact awi h' k m hm
def dT (l:List (Int×aF)) (k:Int):List aF:=(l.filter λy=>decide (y.1=k)).map (·.2)
def jr (l:List aF):aF:=l.getLastD {kind:=0}
theorem W7 (a b:List (Int×aF)) (k:Int):dT (a++b) k=dT a k++dT b k:=by simp[dT]
theorem OO (k:Int) (r:aF):dT [(k,r)] k=[r]:=by simp[dT]
theorem abY (s:aa) (t:Tok) (how n:Int):(s.goes C t how n).c.t=t:=by
 obtain⟨x,e⟩:=aa.HI C s t how n;rw[e]
def JD (af:aw) (k cX:Int):List (Int×aF):=heard af k {kind:=136,cX:=cX,code:=30}
def JE (c:Core):oM:=
 ({c with af:=c.af.tick,t:=(dW c.p c.t.tick.1 (Q.kept c.q) (c.af.tick.on c.t.tick.1.aG)).1,q:=Q.kept c.q,pt:=c.pt.step c.p},
  (if 0<=c.t.tick.2 then JD c.af.tick c.t.tick.1.aG c.t.tick.2 else[])++(Q.gone c.q).flatMap λa=>JD c.af.tick a.source a.source)
theorem afr {c:Core}:∀(q:List Ask) (s:aa) (l:List (Int×aF)),s.at_ c l->(q.foldl (λ(s:aa) (a:Ask)=>(s.gone a.source a.source 30).record C 12 a.source 0 30 0) s).at_ c (l++q.flatMap λa=>JD c.af a.source a.source)
 |[],s,l,h=>by simpa using h
 |a::q,s,l,h=>by
  rw[sZ,List.flatMap_cons,<-bU];exact afr q _ _ (vG (JB h _ _) _ _ _ _ _)
theorem W8 (h:s.at_ c l) (he:c.af.ended=[]):(lM C s).at_ {c with af:=c.af.tick} l:=by
 obtain⟨y,q,rfl⟩:=kV h;unfold lM;dsimp only;rw[he];exact⟨⟨y,rfl⟩,rfl⟩
theorem afs (h:s.at_ c l):(nJ C s).at_ {c with t:=c.t.tick.1} (l++if 0<=c.t.tick.2 then JD c.af c.t.tick.1.aG c.t.tick.2 else[]):=by
 obtain⟨y,q,rfl⟩:=kV h;unfold nJ;dsimp only;have h0:(aa.eu ⟨{c with head:=y},l,q⟩ c.t.tick.1).at_ {c with t:=c.t.tick.1} l:=⟨⟨y,rfl⟩,rfl⟩;split
 ·exact vG (JB h0 _ _) _ _ _ _ _
 ·rw[cH];exact h0
theorem aft (h:s.at_ c l):(uc C s).at_ {c with q:=Q.kept c.q} (l++(Q.gone c.q).flatMap λa=>JD c.af a.source a.source):=by
 obtain⟨y,q,rfl⟩:=kV h;exact afr (c:={c with q:=Q.kept c.q}) _ _ _ ⟨⟨y,rfl⟩,rfl⟩
theorem afu (h:s.at_ c l) (hl:(dW c.p c.t c.q (c.af.on c.t.aG)).2.1<=0):(s.cW C).at_ {c with t:=(dW c.p c.t c.q (c.af.on c.t.aG)).1} l:=by
 obtain⟨y,q,rfl⟩:=kV h;unfold aa.cW;dsimp only;generalize dW c.p c.t c.q (c.af.on c.t.aG)=r at hl⊢;obtain⟨t,how,q2⟩:=r;dsimp only at hl⊢;rw[if_pos hl];exact⟨⟨y,rfl⟩,rfl⟩
theorem W9 (h:s.at_ c l):({s with c:={s.c with pt:=s.c.pt.step s.c.p}}:aa).at_ {c with pt:=c.pt.step c.p} l:=by
 obtain⟨y,q,rfl⟩:=kV h;exact⟨⟨y,rfl⟩,rfl⟩
theorem awk (h:s.at_ c l) (he:c.af.ended=[]) (hl:(dW c.p c.t.tick.1 (Q.kept c.q) (c.af.tick.on c.t.tick.1.aG)).2.1<=0):(s.tick C).res l (JE c):=by
 rw[CD];have h3:=afu (C:=C) (aft (C:=C) (afs (C:=C) (W8 (C:=C) h he))) hl;have h4:=W9 h3;rw[bU]at h4;exact h4
end Sd
namespace Sd
variable{C:aK} {s:aa} {c:Core} {l:List (Int×aF)} {k:Int} {m:a9}
theorem afv {k:Int} (hk:1<=k/\k<=3):linked k=true:=by simp[linked,hk.1,hk.2]
theorem JF {af:aw} (hk:1<=k/\k<=3) (ho:af.on k=true) (r:aF):heard af k r=[(k,r)]:=by unfold heard;rw[afv hk,ho];rfl
theorem awl (af:aw) (r:aF):heard af 4 r=[]:=rfl
theorem vH {af:aw} (hk:1<=k/\k<=3):af.on k=af.cj k:=by unfold aw.on;rw[if_neg (by omega),if_neg (by omega)]
theorem afw {t:Tok} (hk:0<=k/\k<=4) (hh:k≠t.aG) (he:t.ah<65535):t.dq k=(t.pass k (t.ah+1),0):=by
 unfold Tok.dq;rw[if_neg (by omega),if_neg hh,if_neg (by omega)]
theorem awm (hb:c.t.bad=false) (hh:c.t.aG=4) (hk:1<=k/\k<=3) (he:c.t.ah<65535) (hq:c.q=[]) (ho:c.af.cj k=true):
 pa c k m=({c with t:=c.t.pass k (c.t.ah+1),q:=[]},[(k,{kind:=133,ah:=c.t.ah+1}),(k,{kind:=131,seq:=m.seq})]):=by
 have e:fO c.p c.t c.p.queue c.q k m.now=(c.t.pass k (c.t.ah+1),3,0,[]):=by
  unfold fO;rw[if_neg (by rw[hb];decide),if_neg (by omega),if_neg (by omega),if_pos (.inl hh),afw (by omega) (by omega) he,if_neg (by simp),hq];rfl
 unfold pa;dsimp only;rw[e];dsimp only;rw[if_neg (by decide),if_pos (by decide)];unfold Fm As;dsimp only;rw[hh,awl];show((_,_):oM)=_;rw[show(c.t.pass k (c.t.ah+1)).aG=k from rfl,JF hk (by rw[vH hk];exact ho)];rfl
theorem awn (hb:c.t.bad=false) (h4:c.t.aG≠4) (hh:k≠c.t.aG) (he:c.t.ah<65535) (hn:m.now=false) (hw:Q.waits c.q k=false) (hl:(c.q.length:Int)<c.p.queue):
 pa c k m=({c with q:=Q.insert c.q ⟨k,bb c.p k,.start c.p.ask⟩},[(k,{kind:=131,seq:=m.seq})]):=by
 have e:fO c.p c.t c.p.queue c.q k m.now=(c.t,0,0,Q.insert c.q ⟨k,bb c.p k,.start c.p.ask⟩):=by
  unfold fO;rw[if_neg (by rw[hb];decide),if_neg hh,if_neg (by omega),if_neg (by rw[hn];simp[h4]),if_neg (by rw[hn];decide)];unfold Q.push;rw[hw,if_neg (by decide),if_neg (by omega)]
 unfold pa;dsimp only;rw[e];rfl
theorem awo (hh:k=c.t.aG) (he:c.t.ah<65535) (ht:m.aT≠k) (h3:1<=m.aT/\m.aT<=3) (ho:c.af.cj m.aT=true) (hf:c.t.offer<0):
 CZ c k m=({c with t:={c.t with offer:=m.aT,oa:=.start c.p.offer}},[(m.aT,{kind:=135,cX:=k,ah:=c.t.ah}),(k,{kind:=131,seq:=m.seq})]):=by
 have e:Tok.make c.p c.t k m.aT (c.af.on m.aT)=({c.t with offer:=m.aT,oa:=.start c.p.offer},0):=by
  unfold Tok.make;rw[vH h3,ho,if_neg (by omega),if_neg (by omega),if_neg ht,if_neg (by simp;omega),if_neg (by omega)]
 unfold CZ;dsimp only;rw[e];dsimp only;rw[if_neg (by decide),JF h3 (by rw[vH h3];exact ho)];rfl
structure yf (C:aK):Prop where
 lC:∀(r:Int) (f:ao),0<=r/\r<=3->f 0=1->f 1=r->∃m,C.take 2 f=some m/\m.role=r
 prove:∀(r:Int) (f:ao),0<=r/\r<=3->f 0=2->f 1=r->∃m,C.take 2 f=some m/\m.role=r
 fg:∀(w:gW) (n:Int),0<=n/\n<=4294967295->0<=w.high->(w.any=false\/w.high<n)->C.fg w n≠w/\(C.fg w n).high=n
structure f_ (c:Core) (k:Int) (key:ao) (role hi:Int):Prop where
 lk:1<=k/\k<=3
 on:c.af.cj k=true
 key:(c.af.ak (k.toNat-1)).key=key
 role:(c.af.ak (k.toNat-1)).role=role
 any:(c.af.ak (k.toNat-1)).seen.any=false\/(c.af.ak (k.toNat-1)).seen.high<=hi
 hi:0<=(c.af.ak (k.toNat-1)).seen.high
theorem lN (hk:1<=k/\k<=3) (t:aw):t.cj k=(t.ak (k.toNat-1)).on:=by unfold aw.cj;simp[hk.1,hk.2]
theorem f_.tP {c c':Core} {key:ao} {role hi:Int} (h:f_ c k key role hi) (e:c'.af=c.af):f_ c' k key role hi:=by
 obtain⟨a1,a2,a3,a4,a5,a6⟩:=h;exact⟨a1,by rw[e];exact a2,by rw[e];exact a3,by rw[e];exact a4,by rw[e];exact a5,by rw[e];exact a6⟩
theorem f_.bV {key:ao} {role hi n:Int} (hT:yf C) (h:f_ c k key role hi) (hn:hi<n/\0<=n/\n<=4294967295):C.fg (c.af.ak (k.toNat-1)).seen n≠(c.af.ak (k.toNat-1)).seen/\f_ {c with af:=c.af.eK C c.p k n} k key role n:=by
 have hs:=hT.fg (c.af.ak (k.toNat-1)).seen n hn.2 h.hi (by rcases h.any with e|e;exact .inl e;exact .inr (by omega));refine⟨hs.1,⟨h.lk,?_,?_,?_,?_,?_⟩⟩
 ·rw[lN h.lk];simp[aw.eK,aw.eD]
 ·simpa[aw.eK,aw.eD]using h.key
 ·simpa[aw.eK,aw.eD]using h.role
 ·right;simp[aw.eK,aw.eD,hs.2]
 ·simp[aw.eK,aw.eD,hs.2,hn.2.1]
theorem f_.other {key:ao} {role hi n k':Int} (h:f_ c k key role hi) (hk:1<=k'/\k'<=3) (cE:k'≠k):f_ {c with af:=c.af.eK C c.p k' n} k key role hi:=by
 have hl:=h.lk;have e:((c.af.eK C c.p k' n).ak (k.toNat-1))=c.af.ak (k.toNat-1):=by
  unfold aw.eK aw.eD;dsimp only;rw[if_neg (by omega)]
 refine⟨h.lk,?_,by rw[<-h.key];exact congrArg _ e,by rw[<-h.role];exact congrArg _ e,?_,?_⟩
 ·rw[lN h.lk];have:=h.on;rw[lN h.lk]at this;rw[<-this];exact congrArg _ e
 ·have:=h.any;rwa [<-e]at this
 ·have:=h.hi;rwa [<-e]at this
end Sd
namespace Sd
variable{C:aK}
structure HS (p:aO) (a b:Int) (ka kb:ao) (ra rb:Int) (c:Core) (ha hb:Int) (t:Tok) (mode:Int) (bx:Label) (q:List Ask):Prop where
 p:c.p=p
 sa:f_ c a ka ra ha
 sb:f_ c b kb rb hb
 t:c.t=t
 q:c.q=q
 m:c.mode=mode
 mb:c.d_=bx
variable{p:aO} {a b:Int} {ka kb:ao} {ra rb:Int} {c:Core} {ha hb:Int} {t:Tok} {mode:Int} {bx:Label} {q:List Ask} {m:a9}
theorem HS.swap (h:HS p a b ka kb ra rb c ha hb t mode bx q):HS p b a kb ka rb ra c hb ha t mode bx q:=⟨h.p,h.sb,h.sa,h.t,h.q,h.m,h.mb⟩
theorem HS.bV (hT:yf C) (h:HS p a b ka kb ra rb c ha hb t mode bx q) (jJ:a≠b) {n:Int} (hn:ha<n/\0<=n/\n<=4294967295):
 C.fg (c.af.ak (a.toNat-1)).seen n≠(c.af.ak (a.toNat-1)).seen/\HS p a b ka kb ra rb {c with af:=c.af.eK C c.p a n} n hb t mode bx q:=by
 have h1:=h.sa.bV hT hn;exact⟨h1.1,⟨h.p,h1.2,h.sb.other h.sa.lk jJ,h.t,h.q,h.m,h.mb⟩⟩
theorem HS.W_ (h:HS p a b ka kb ra rb c ha hb t mode bx q) {c':Core} (e1:c'.p=c.p) (e2:c'.af=c.af):HS p a b ka kb ra rb c' ha hb c'.t c'.mode c'.d_ c'.q:=⟨e1.trans h.p,h.sa.tP e2,h.sb.tP e2,rfl,rfl,rfl,rfl⟩
abbrev bt (C:aK) (c:Core) (k:Int) (m:a9):Core:={c with af:=c.af.eK C c.p k m.seq}
theorem afx {k:Int} (hm:m.kind=5):fp C c k m=pa (bt C c k m) k m:=by unfold fp At;rw[if_neg (by omega),if_pos hm]
theorem awp {k:Int} (hm:m.kind=6):fp C c k m=CZ (bt C c k m) k m:=by unfold fp At;rw[if_neg (by omega),if_neg (by omega),if_pos hm]
theorem afz (hT:yf C) (h:HS p a b ka kb ra rb c ha hb t mode bx []) (jJ:a≠b) (hm:m.kind=5) (hn:ha<m.seq/\0<=m.seq/\m.seq<=4294967295) (h4:t.aG=4) (Xa:t.bad=false) (he:t.ah<65535):
 HS p a b ka kb ra rb (fp C c a m).1 m.seq hb (t.pass a (t.ah+1)) mode bx []/\(fp C c a m).2=[(a,{kind:=133,ah:=t.ah+1}),(a,{kind:=131,seq:=m.seq})]:=by
 have h1:=(h.bV hT jJ hn).2;have e:=(afx (C:=C) (c:=c) (k:=a) hm).trans (awm (c:=bt C c a m) (by show c.t.bad=false;rw[h.t];exact Xa) (by show c.t.aG=4;rw[h.t];exact h4) h.sa.lk (by show c.t.ah<65535;rw[h.t];exact he) h.q h1.sa.on);rw[e];refine⟨?_,by show _=_;simp only[h.t]⟩;have h2:=h1.W_ (c':={c with af:=c.af.eK C c.p a m.seq,t:=c.t.pass a (c.t.ah+1),q:=[]}) rfl rfl;have e2:c.t.pass a (c.t.ah+1)=t.pass a (t.ah+1):=by rw[h.t]
 have e3:c.mode=mode:=h.m;have e4:c.d_=bx:=h.mb;simpa only[e2,e3,e4]using h2
theorem awq (hT:yf C) (h:HS p a b ka kb ra rb c ha hb t mode bx q) (jJ:a≠b) (hm:m.kind=6) (hn:ha<m.seq/\0<=m.seq/\m.seq<=4294967295) (JG:m.aT=b) (hh:t.aG=a) (ho:t.offer<0) (he:t.ah<65535):
 HS p a b ka kb ra rb (fp C c a m).1 m.seq hb {t with offer:=b,oa:=.start p.offer} mode bx q/\(fp C c a m).2=[(b,{kind:=135,cX:=a,ah:=t.ah}),(a,{kind:=131,seq:=m.seq})]:=by
 have h1:=(h.bV hT jJ hn).2;have e:=(awp (C:=C) (c:=c) (k:=a) hm).trans (awo (c:=bt C c a m) (by show a=c.t.aG;rw[h.t];exact hh.symm) (by show c.t.ah<65535;rw[h.t];exact he) (by rw[JG];exact jJ.symm) (by rw[JG];exact h.sb.lk) (by rw[JG];exact h1.sb.on) (by show c.t.offer<0;rw[h.t];exact ho));rw[e];refine⟨?_,by show _=_;simp only[h.t,JG]⟩;have h2:=h1.W_ (c':={c with af:=c.af.eK C c.p a m.seq,t:={c.t with offer:=m.aT,oa:=.start c.p.offer}}) rfl rfl;have e2:({c.t with offer:=m.aT,oa:=.start c.p.offer}:Tok)={t with offer:=b,oa:=.start p.offer}:=by rw[h.t,JG,h.p]
 have e3:c.mode=mode:=h.m;have e4:c.d_=bx:=h.mb;have e5:c.q=q:=h.q;simpa only[e2,e3,e4,e5]using h2
end Sd
namespace Sd
variable{C:aK} {s:aa} {c:Core} {k r:Int}
def aa.clear (s:aa):aa:=⟨s.c,[],[]⟩
def sP (C:aK) (c:Core) (k:Int):ao:=C.aA (c.p.k 3) k ((c.doors (k.toNat-1)).many+1)
def Au (C:aK) (c:Core) (k:Int):Core:=uh c k ⟨(c.doors (k.toNat-1)).many+1,true,sP C c k⟩
def afA (c:Core) (k:Int):Core:=uh c k ⟨(c.doors (k.toNat-1)).many+1,false,λ_=>0⟩
def dU (C:aK) (c:Core) (k r:Int):Core:={afA c k with af:=c.af.eD (k.toNat-1) ⟨true,.start c.p.bV,r,C.key (c.p.k (k.toNat-1)) k r (sP C c k),⟨false,0,0⟩⟩}
theorem awr (c:Core) (k:Int) (d:eC):uh (uh c k d) k ⟨((uh c k d).doors (k.toNat-1)).many,false,λ_=>0⟩=uh c k ⟨d.many,false,λ_=>0⟩:=by
 unfold uh;simp only[if_true];congr 1;funext j;split<;>rfl
theorem aws {N:Nat} {f:ao} (h0:f 0=1) (hN:0<N):s.item C k 0 N f=s.lC C k N f:=by
 unfold aa.item;rw[if_neg (by decide),if_pos ⟨hN,h0⟩]
theorem awt {N:Nat} {f:ao} (h0:f 0=2) (hN:0<N):s.item C k 0 N f=s.prove C k N f:=by
 unfold aa.item;rw[if_neg (by decide),if_neg (by omega),if_pos ⟨hN,h0⟩]
variable{f1 f2:ao}
theorem afB (hT:yf C) (h:s.at_ c []) (hr:0<=r/\r<=3) (ht:jf c.p k r=true) (hm:(c.doors (k.toNat-1)).many<4294967295) (h0:f1 0=1) (h1:f1 1=r):
 (s.item C k 0 2 f1).at_ (Au C c k) [(k,{kind:=129,aA:=sP C c k})]:=by
 obtain⟨m,e1,e2⟩:=hT.lC r f1 hr h0 h1;rw[aws h0 (by decide)];exact awa h e1 (by rw[e2];exact ht) hm
theorem awu {p:aO} {t:aw} {key:ao} (hk:1<=k/\k<=3) (hr:0<=r/\r<=3) (hs:t.cj k=true\/t.many<p.fj):aw.eL p t k r key=(t.eD (k.toNat-1) ⟨true,.start p.bV,r,key,⟨false,0,0⟩⟩,0):=by
 unfold aw.eL;rw[if_neg (by omega),if_neg (by rintro⟨a,b⟩;rcases hs with e|e;rw[e]at a;cases a;omega)]
theorem awv (hT:yf C) (h:s.at_ (Au C c k) []) (hk:1<=k/\k<=3) (hr:0<=r/\r<=3) (ht:jf c.p k r=true) (h0:f2 0=2) (h1:f2 1=r) (hp:C.right (c.p.k (k.toNat-1)) k r (sP C c k) (λj=>f2 (2+j))=true)
 (hs:c.af.cj k=true\/c.af.many<c.p.fj):(s.item C k 0 10 f2).at_ (dU C c k r) [(k,{kind:=130,role:=r,cX:=c.t.aG,ah:=c.t.ah})]:=by
 obtain⟨m,e1,rfl⟩:=hT.prove r f2 hr h0 h1;rw[awt h0 (by decide)];have hd:(Au C c k).doors (k.toNat-1)=⟨(c.doors (k.toNat-1)).many+1,true,sP C c k⟩:=if_pos rfl;have:=awb h e1 (by rw[hd]) (by rw[hd];exact hp) ht (awu (key:=C.key ((Au C c k).p.k (k.toNat-1)) k m.role ((Au C c k).doors (k.toNat-1)).aA) hk hr hs);rw[if_neg (by decide),if_neg (by decide)]at this;have e:uh (Au C c k) k ⟨((Au C c k).doors (k.toNat-1)).many,false,λ_=>0⟩=afA c k:=awr c k _;rw[e,hd]at this;exact this
theorem JH (hk:1<=k/\k<=3):f_ (dU C c k r) k (C.key (c.p.k (k.toNat-1)) k r (sP C c k)) r 0:=by
 refine⟨hk,?_,?_,?_,?_,?_⟩<;>simp[dU,lN hk,aw.eD]
theorem OP {k':Int} {key:ao} {role hi:Int} (h:f_ c k' key role hi) (hk:1<=k/\k<=3) (cE:k≠k'):f_ (dU C c k r) k' key role hi:=by
 have hl:=h.lk;have e:(dU C c k r).af.ak (k'.toNat-1)=c.af.ak (k'.toNat-1):=by
  unfold dU aw.eD;dsimp only;rw[if_neg (by omega)]
 obtain⟨a1,a2,a3,a4,a5,a6⟩:=h;rw[lN a1]at a2;exact⟨a1,by rw[lN a1,e];exact a2,by rw[e];exact a3,by rw[e];exact a4,by rw[e];exact a5,by rw[e];exact a6⟩
theorem OQ {k':Int} (hk:1<=k/\k<=3) (oU:1<=k'/\k'<=3) (cE:k≠k') (h:c.af.cj k'=false):(dU C c k r).af.cj k'=false:=by
 rw[lN oU]at h⊢;unfold dU aw.eD;dsimp only;rw[if_neg (by omega)];exact h
theorem aww (t:aw) (a1 a2 a3:Bool) (h1:t.cj 1=a1) (h2:t.cj 2=a2) (h3:t.cj 3=a3):t.many=(if a1 then 1 else 0)+(if a2 then 1 else 0)+(if a3 then 1 else 0):=by
 rw[lN (by decide)]at h1 h2 h3;unfold aw.many;rw[<-h1,<-h2,<-h3];rfl
end Sd
namespace Go.Proofs.YtggfpcggakghnaaGreatDoor
section
open Go Go.RowKit Go.BigFrame Sx Vx
theorem awx {h f g:Nat->Int} {n:Nat} (e:∀j,j<n->f j=g j):dC h 0 n f=dC h 0 n g:=by
 funext j;unfold dC;cases hb:bG 0 j&&cD j (0+n)with
 |false=>rfl
 |true=>
  simp only[cond_true];rw[bu]at hb;have h2:=hb.2;unfold cD at h2;have:=dJ h2;exact e _ (by omega)
theorem awy {f g:Nat->Int} {n:Nat} (e:∀j,j<n->f j=g j):ji n f=ji n g:=by
 unfold ji aav aaw qt;rw[awx e]
theorem afC {h f g:Nat->Int} {n m:Nat} (e:∀j,j<m->f j=g j):∀j,j<n+m->cA n h f j=cA n h g j:=by
 intro j hj;unfold cA;cases hb:cD j n with
 |true=>rfl
 |false=>
  simp only[cond_false];refine e _ ?_;have:¬j<n:=λh=>by rw[Ge h]at hb;cases hb
  omega
theorem JI {f g:Nat->Int} {n j:Nat} (h:j<n):cA n f g j=f j:=by unfold cA;rw[Ge h];rfl
theorem awz {f g:Nat->Int} {n j:Nat}:cA n f g (n+j)=g j:=by unfold cA;rw[KA (by omega)];simp
theorem awA {kn:Nat} {kf d d':Nat->Int} {n:Nat} (e:∀j,j<n->d j=d' j):fR kn kf n d=fR kn kf n d':=by
 unfold fR;rw[awy (n:=64+n) (afC e)]
theorem awB {k f g:Nat->Int} {s:Int} {m:Nat} (e:∀j,j<m->f j=g j):∀j,j<m+8->gY k s m f j=gY k s m g j:=by
 intro j hj;unfold gY;have h:fR 32 k (1+1+m) (jY 1 1 (λ_=>77) (aN 1 (s%256)) f)=fR 32 k (1+1+m) (jY 1 1 (λ_=>77) (aN 1 (s%256)) g):=awA (λj hj=>afC e j hj);rw[h];by_cases OR:j<m
 ·rw[JI OR,JI OR];exact e j OR
 ·unfold cA;rw[KA OR];rfl
theorem xor_self (kd:fq) (x:Int):bits .xor kd x x=kd.wrap 0:=by simp[bits]
theorem afD {f g:Nat->Int}:∀n,(∀j,j<n->f j=g j)->yD f g n=0
 |0,_=>rfl
 |n+1,h=>by
  show bits .or .u8 (yD f g n) (bits .xor .u8 (f n) (g n))=0;rw[afD n λj hj=>h j (by omega),h n (by omega),xor_self];rfl
theorem afE {f g:Nat->Int} {n:Nat} (h:∀j,j<n->f j=g j):o8 n f g=true:=by
 unfold o8;rw[afD n h];rfl
theorem awC (k f:Nat->Int) (s:Int) (m:Nat):lj k s m (gY k s m f)=true:=by
 unfold lj;refine afE λj hj=>(awB (λi hi=>?_) j hj);unfold gY;exact(JI hi).symm
theorem afF {k f:Nat->Int} {s:Int} {m j:Nat} (h:j<m):gY k s m f j=f j:=by unfold gY;exact JI h
theorem awD (kn:Nat) (kf nc pf:Nat->Int) (s r:Int) (h:∀j,j<8->pf j=lh kn kf s r nc j):xn kn kf s r nc pf=true:=afE h
theorem afG {k r:Int} (hk:k=1\/k=2) {f:Nat->Int} (hr:0<=r/\r<=3) (h0:f 0=k) (h1:f 1=r):ay 2 f=some {Sd.c_ k with role:=r}:=by
 unfold ay;rw[if_neg (by decide),h0];have e:pj k=some [vf]:=by unfold pj;rw[if_pos hk]
 rw[e];show runM 2 f [vf] 1 (Sd.c_ k)=_;unfold runM;have en:vf.num (λj=>f (1+j))=r:=h1;rw[if_neg (by decide),en,if_neg (by show¬(r<0\/3<r);omega)];rfl
theorem awE {w:Sd.gW} {n:Int} (h:w.any=false\/w.high<n):ee w n≠w/\(ee w n).high=n:=by
 unfold ee;by_cases ha:w.any=false
 ·rw[if_pos ha];exact⟨(λe=>by rw[<-e]at ha;cases ha),rfl⟩
 ·rw[if_neg ha,if_pos (h.resolve_left ha)];exact⟨(λe=>by have h1:=congrArg Sd.gW.high e;have:=h.resolve_left ha;simp only at h1;omega),rfl⟩
theorem ui:Sd.yf (aq ay):=
 ⟨λr f hr h0 h1=>⟨_,afG (.inl rfl) hr h0 h1,rfl⟩,λr f hr h0 h1=>⟨_,afG (.inr rfl) hr h0 h1,rfl⟩,λw n _ _ h=>awE h⟩
theorem awF {f:Nat->Int} {v:Int} (h:0<=v/\v<=4294967295) (h0:f 1=aN 4 (u64.wrap v) 0) (h1:f 2=aN 4 (u64.wrap v) 1) (h2:f 3=aN 4 (u64.wrap v) 2) (h3:f 4=aN 4 (u64.wrap v) 3):iD.num (λj=>f (1+j))=v:=by
 have:=W0 h;rw[afl (oL _ _ _) (oL _ _ _) (oL _ _ _) (oL _ _ _)]at this;show((f 1*256+f 2)*256+f 3)*256+f 4=v;rw[h0,h1,h2,h3];exact this
theorem afH {f:Nat->Int} {v:Int} {o:Nat} (h:0<=v/\v<=65535) (h0:f o=aN 2 (u64.wrap v) 0) (h1:f (o+1)=aN 2 (u64.wrap v) 1):nA.num (λj=>f (o+j))=v:=by
 have:=Jx h;rw[afk (oL _ _ _) (oL _ _ _)]at this;show f o*256+f (o+1)=v;rw[h0,h1];exact this
theorem one_num {f:Nat->Int} {v:Int} {o:Nat} (h:0<=v/\v<=255) (h0:f o=aN 1 (u64.wrap v) 0):f o=v:=by
 have:=Ao h;rw[WZ (oL _ _ _)]at this;rw[h0];exact this
structure C0 (f:Nat->Int) (k v:Int):Prop where
 hk:f 0=k
 hv:0<=v/\v<=4294967295
 b1:f 1=aN 4 (u64.wrap v) 0
 b2:f 2=aN 4 (u64.wrap v) 1
 b3:f 3=aN 4 (u64.wrap v) 2
 b4:f 4=aN 4 (u64.wrap v) 3
theorem Fp {f:Nat->Int} {k v:Int} {n:Nat} {l:List Fd} (h:C0 f k v) (hl:pj k=some (iD::l)) (hn:5<=n):ay n f=runM n f l 5 {Sd.c_ k with seq:=v}:=by
 have hv:=h.hv;unfold ay;rw[if_neg (by omega),h.hk,hl];show runM n f (iD::l) 1 (Sd.c_ k)=_;rw[runM,if_neg (by show¬(n-1<4);omega),awF h.hv h.b1 h.b2 h.b3 h.b4,if_neg (by show¬(v<0\/4294967295<v);omega)];rfl
theorem awG {f:Nat->Int} {v:Int} (h:C0 f 3 v):ay 5 f=some {Sd.c_ 3 with seq:=v}:=by rw[Fp h rfl (dH _)];rfl
theorem awH {f:Nat->Int} {v:Int} (h:C0 f 9 v):ay 5 f=some {Sd.c_ 9 with seq:=v}:=by rw[Fp h rfl (dH _)];rfl
theorem awI {f:Nat->Int} {v:Int} {b:Bool} (h:C0 f 5 v) (h5:f 5=aN 1 (u64.wrap (if b then 1 else 0)) 0):ay 6 f=some {Sd.c_ 5 with seq:=v,now:=b}:=by
 rw[Fp (l:=[zO]) h rfl (by decide),runM,if_neg (by decide)];have e:zO.num (λj=>f (5+j))=if b then 1 else 0:=one_num (o:=5) (by cases b<;>decide) h5
 rw[e,if_neg (by cases b<;>decide)];cases b<;>rfl
theorem awJ {f:Nat->Int} {v w:Int} (h:C0 f 6 v) (hw:0<=w/\w<=4) (h5:f 5=aN 1 (u64.wrap w) 0):ay 6 f=some {Sd.c_ 6 with seq:=v,aT:=w}:=by
 rw[Fp (l:=[zN]) h rfl (by decide),runM,if_neg (by decide)];have e:zN.num (λj=>f (5+j))=w:=one_num (o:=5) (by omega) h5;rw[e,if_neg (by show¬(w<0\/4<w);omega)];rfl
theorem awK {f:Nat->Int} {v w:Int} (h:C0 f 7 v) (hw:0<=w/\w<=65535) (h5:f 5=aN 2 (u64.wrap w) 0) (h6:f 6=aN 2 (u64.wrap w) 1):ay 7 f=some {Sd.c_ 7 with seq:=v,ah:=w}:=by
 rw[Fp (l:=[nA]) h rfl (by decide),runM,if_neg (by decide),afH (o:=5) hw h5 h6,if_neg (by show¬(w<0\/65535<w);omega)];rfl
theorem awL {f:Nat->Int} {v w x:Int} (h:C0 f 10 v) (hw:0<=w/\w<=65535) (hx:0<=x/\x<=4) (h5:f 5=aN 2 (u64.wrap w) 0) (h6:f 6=aN 2 (u64.wrap w) 1) (h7:f 7=aN 1 (u64.wrap x) 0):
 ay 8 f=some {Sd.c_ 10 with seq:=v,ah:=w,mode:=x}:=by
 rw[Fp (l:=[nA,xw]) h rfl (by decide),runM,if_neg (by decide),afH (o:=5) hw h5 h6,if_neg (by show¬(w<0\/65535<w);omega)];show runM 8 f [xw] 7 _=_;rw[runM,if_neg (by decide)];have e:xw.num (λj=>f (7+j))=x:=one_num (o:=7) (by omega) h7;rw[e,if_neg (by show¬(x<0\/4<x);omega)];rfl
variable{fr:Sd.aF->Nat×Sd.ao}
def Fq (bl:List VB) (x:V):Option ((Nat×Nat)×Nat×(Nat->Int)):=match x with
 |.sl i 0 n c=>(match bl[i]?with
  |some ⟨_,⟨5,(0,0)⟩,.bS .u8 n' f::_⟩=>some ((n,c),n',f)
  |_=>none)
 |_=>none
theorem afI {ids:List Nat} {bl:List VB} {X:List aj} {ms:List Nat} {w0 w:ag} (hl:ids.length=bl.length) (S:St ms w0 (lits ids ids bl++X) w) {x:V} {n c n':Nat} {f:Nat->Int} (h:Fq bl x=some ((n,c),n',f)) (hn:n<=n'):
 ∃b,den ids x=.slice (some ⟨b,0,none⟩) n c/\cx w b 0 n f:=by
 unfold Fq at h;split at h
 ·rename_i i n1 c1;split at h
  ·rename_i wr n2 f2 r hb;cases h;refine⟨_,rfl,λj hj=>?_⟩;have aP:=(fV hl S hb).2;rw[cell_of aP,eY];simp only[ai,cl,jQ];rw[iq (by simp;omega)];simp[nV (show j<n' by omega)]
  ·cases h
 ·cases h
theorem awM {w:ag} {b n c:Nat} {f:Nat->Int} (h:cx w b 0 n f) (hn:n<=1000000) (hc:n<=c):eJ w (some ⟨b,0,none⟩) n c f:=
 ⟨hn,hc,(λe=>nomatch e),λx e j hj=>by
  obtain rfl:=cG e;rw[iS];exact h j hj⟩
def OS (bl:List VB):Prop:=∃tg,bl[0]?=some (j5 tg)
theorem afJ {ids:List Nat} {bl:List VB} {X:List aj} {ms:List Nat} {w0 w:ag} (hg:Gl gS ids) (hl:ids.length=bl.length) (S:St ms w0 (lits ids ids bl++X) w) (h:OS bl):∃tg,w.heap[1]?=some (.cells (aE .u32 64 cT) tg (0,0)):=by
 obtain⟨tg,h⟩:=h;have aP:=(fV hl S h).2;rw[(hg 1 0 rfl).2]at aP;refine⟨tg,?_⟩;rw[aP];simp only[j5,ai,cl,cH];rfl
theorem afK {l:List V} {q:List Int} {m:Nat} {g:Nat->Int} (h:kJ l=some q) (hq:q.length=m) (hg:∀j,j<m->dm q j=g j) (ids:List Nat):den ids (.agg l)=.agg (aE .u8 m g):=by
 simp only[den,wZ ids h,hq];rw[Gf hg];rfl
def Av (N:Nat) (F:Nat->(Nat->Int)->Int->Int->(Nat->Int)->Nat->Int):dc (LG fr):=λargs bl ch K=>match args with
 |[x,.int .i64 s,.int .i64 r,.agg l]=>(match Fq bl x,kJ l with
  |some ((n,c),n',f),some q=>∃nc:Nat->Int,((n=n'/\n<=c/\(1<=n/\n<=64))/\(0<=s/\s<4294967296)/\(0<=r/\r<4294967296)/\q.length=8/\(∀j,j<8->dm q j=nc j)/\OS bl)/\K (.agg (ints N (F n f s r nc))) bl ch
  |_,_=>False)
 |_=>False
theorem awN (ids:List Nat) (N:Nat) (g:Nat->Int):den ids (.agg (ints N g))=.agg (aE .u8 N g):=by
 simp only[den,zq]
theorem afL {N:Nat} {F:Nat->(Nat->Int)->Int->Int->(Nat->Int)->Nat->Int} {f:fL} (hF:∀(ka:Option aQ) (kn kc:Nat) (kf:Nat->Int) (s r:Int) (nc:Nat->Int),1<=kn/\kn<=64->0<=s/\s<4294967296->0<=r/\r<4294967296->∀{tG:aJ} (w:ag),w.heap[1]?=some (.cells (aE .u32 64 cT) tG (0,0))->eJ w ka kn kc kf->
 aV prog f #[.slice ka kn kc,.int .i64 s,.int .i64 r,.agg (aE .u8 8 nc)] w λv w1=>v=.agg (aE .u8 N (F kn kf s r nc))/\Ch [] w w1):Sound prog gS f (Av (fr:=fr) N F):=by
 intro args ids bl ch R ms w0 w K hg hl S hc;unfold Av at hc;split at hc
 ·rename_i x s r l;split at hc
  ·rename_i n c n' g q hb Xb;obtain⟨nc,⟨⟨rfl,JJ,hn⟩,hs,hr,hq,jV,lr⟩,hK⟩:=hc;obtain⟨b,hx,h8⟩:=afI hl S hb (dH _);obtain⟨tg,hG⟩:=afJ hg hl S lr;have ea:(aH ids [x,.int .i64 s,.int .i64 r,.agg l]).toArray=#[.slice (some ⟨b,0,none⟩) n c,.int .i64 s,.int .i64 r,.agg (aE .u8 8 nc)]:=by
    simp only[aH,hx,afK Xb hq jV];rfl
   rw[ea];refine(hF _ n c g s r nc hn hs hr w hG (awM h8 (by omega) JJ)).mono ?_;rintro v w' ⟨rfl,cB⟩;exact⟨.agg (ints N (F n g s r nc)),[],bl,_,(awN _ _ _).symm,by simpa using hl,by simpa using S.quiet cB,hK⟩
  ·exact hc.elim
 ·exact hc.elim
theorem afM {N:Nat} {F:Nat->(Nat->Int)->Int->Int->(Nat->Int)->Nat->Int}:ia (Av (fr:=fr) N F):=by
 intro args bl ch K hc;unfold Av at hc⊢;split at hc
 ·split at hc
  ·obtain⟨nc,h,hK⟩:=hc;exact⟨nc,h,hK,[],by simp⟩
  ·exact hc.elim
 ·exact hc.elim
theorem awO:Sound prog gS 16 (Av (fr:=fr) 8 lh):=afL λka kn kc kf s r nc h1 h2 h3 _ w hG hk=>aa9 ka kn kc kf s r nc h1 h2 h3 w hG hk
theorem awP:Sound prog gS 37 (Av (fr:=fr) 32 jm):=afL λka kn kc kf s r nc h1 h2 h3 _ w hG hk=>aa_ ka kn kc kf s r nc h1 h2 h3 w hG hk
def JK:dc (LG fr):=λargs bl ch K=>match args with
 |[.agg l,.int .i64 s,x]=>(match Fq bl x,kJ l with
  |some ((n,c),n',f),some q=>cond (bM bl.length bl) (∃k:Nat->Int,(n=n'/\n<=50/\(0<=s/\s<4294967296)/\q.length=32/\(∀j,j<32->dm q j=k j)/\OS bl)/\∀d:Nat,K (.sl bl.length 0 (n+8) (n+8+d)) (bl++[dF (n+8) d (gY k s n f)]) ch) False
  |_,_=>False)
 |_=>False
theorem awQ:Sound prog gS 47 (JK (fr:=fr)):=by
 intro args ids bl ch R ms w0 w K hg hl S hc;unfold JK at hc;split at hc
 ·rename_i l s x;split at hc
  ·rename_i n c n' g q hb Xb;cases hw:bM bl.length bl with
   |false=>rw[hw]at hc;exact hc.elim
   |true=>
    rw[hw]at hc;obtain⟨k,⟨rfl,hn,hs,hq,hk,lr⟩,hK⟩:=hc;obtain⟨b,hx,h8⟩:=afI hl S hb (dH _);obtain⟨tg,hG⟩:=afJ hg hl S lr;have ea:(aH ids [.agg l,.int .i64 s,x]).toArray=#[.agg (aE .u8 32 k),.int .i64 s,.slice (some ⟨b,0,none⟩) n c]:=by
     simp only[aH,hx,afK Xb hq hk];rfl
    rw[ea];refine(close_ k s b 0 n c g hn hs w hG h8).mono ?_;rintro v w' ⟨b2,c2,rfl,hle,eG,oX,cB⟩;obtain⟨d,rfl⟩:=Nat.le.dest hle;refine⟨_,[b2],_,_,?_,by simp[hl],?_,hK d⟩
    ·have:(ids++[b2]).getD bl.length 0=b2:=by rw[<-hl];simp[ir]
     simp only[den,this]
    ·have em:aD (ids++[b2]) b2 (dF (n+8) d (gY k s n g))=⟨b2,true,.cells (bI (n+8) (gY k s n g) (n+8+d)) 5 (0,0)⟩:=by
      unfold aD;rw[xT];rfl
     rw[fC _ _ _ _ hl,fD _ _ (by rw[hl];exact hw)];simp only[lits,em];refine(S.new cB eG oX).perm ?_;rw[bU];exact jU.symm
  ·exact hc.elim
 ·exact hc.elim
theorem awR:ia (JK (fr:=fr)):=by
 intro args bl ch K hc;unfold JK at hc⊢;split at hc
 ·split at hc
  ·revert hc;cases bM bl.length bl with
   |false=>exact λh=>h.elim
   |true=>
    rintro⟨k,h,hK⟩;exact⟨k,h,λd=>⟨hK d,_,rfl⟩⟩
  ·exact hc.elim
 ·exact hc.elim
def OT:(bh->V)->Op->List VB->List (LG fr)->VK (LG fr)->Prop:=λe op bl ch K=>match op with
 |.call c=>(match c.callee,c.args.toList,c.argTypes.toList with
  |.builtin .append,[s,xs],[t,tx]=>(match prog.underlying t,prog.underlying tx with
   |some (.slice T),some (.slice _)=>(match e xs with
    |.sl i 0 m cc=>(match bl[i]?with
     |some ⟨_,_,l⟩=>(match e s with
      |.sl j 0 n c=>(match bl[j]?with
       |some ⟨true,⟨5,(0,0)⟩,l0⟩=>(match kJ l0,kJ l with
        |some q0,some q=>cond (az T 5&&(az q0.length n&&(az n c&&(az q.length m&&(bG 1 m&&(bG (n+m) 1000000&&bM bl.length bl))))))
         (∀d:Nat,K (.sl bl.length 0 (n+m) (n+m+d)) (bl++[dF (n+m) d (dm (q0++q))]) ch) False
        |_,_=>False)
       |_=>False)
      |_=>(match tF prog T,ch with
       |some (z,bx),.a_ u::.core g fB::.row r::rest=>cond (az (ck l) (m*z)&&(bo 0 l&&(mI l&&bG bx 10000000)))
        ((e s=r.v/\r.T=T/\r.z=z/\r.n+m<=1000000)/\∀r2:bm,r2.T=r.T->r2.z=r.z->r2.os=r.os++ai [] l->r2.n=r.n+m->K r2.v bl (.a_ u::.core g fB::.row r2::rest)) False
       |_,_=>False))
     |_=>False)
    |_=>False)
   |_,_=>False)
  |_,_,_=>False)
 |_=>False
theorem awS {P:aL} {w:ag} {T n c m:Nat} {f g:Nat->Int} {b:Nat} (jV:n<=c) (aP:w.heap[b]?=some (.cells (bI n f c) T (0,0)))
 {t tx ty:aJ} {xv:ae} (hs:Src P 1 tx xv m (b9 m g) w) (ht:P.underlying t=some (.slice T)) (hi:(P.info? T).map (λi=>(i.zero.map (·.cells),i.size,i.bytes))=some (some #[.int .u8 0],1,1))
 (hb:n+m<=140737488355328) (hg:c<n+m):
 ∃b' c' w',(nU #[t,tx] ty #[.slice (some ⟨b,0,none⟩) n c,xv]).run P w=.ok (.slice (some ⟨b',0,none⟩) (n+m) c') w'/\Ch [] w w'/\n+m<=c'/\w.heap.size<=b'/\w'.heap[b']?=some (.cells (bI (n+m) (cA n f g) c') T (0,0)):=by
 obtain⟨i,cu,hi⟩:=im.1 hi;simp only[bC]at hi;obtain⟨hz,dM,iK⟩:=hi;obtain⟨z0,lW,nY⟩:=im.1 hz;have jA:Src P i.size tx xv m (b9 m g) w:=by rw[dM];exact hs
 have h63:n+m<=maxLen:=by unfold maxLen;omega
 have hold:(Builtin.firstCells i.size n (.slice (some ⟨b,0,none⟩) n c)).run P w.drew=.ok (b9 n f).toArray w.drew:=by
  refine run_firstCells_some (P:=P) w.drew i.size n ⟨b,0,none⟩ n c (b9 n f) (by rw[gH,dM,Nat.mul_one]) (λj v hj=>?_);obtain⟨kD,rfl⟩:=yK hj;rw[iS];have:w.drew.cell? ⟨b,0+j,none⟩=w.cell? ⟨b,j,none⟩:=by simp
  rw[this,cell_of aP];simp only[bI,jQ];rw[iq (by rw[gH];exact kD),rJ f kD]
 have bQ:=run_append_grow_src (P:=P) w t tx ty T i z0 ht cu lW (some ⟨b,0,none⟩) n c (b9 n f) hold xv m (b9 m g) jA hg (by simp only[maxLen]at h63;omega) (by rw[iK];exact growslice_fits hg (by omega));refine⟨_,_,_,bQ,((Ch.refl [] w).drew).trans (Ch.alloc [] w.drew _) (λx hx=>.inl hx),grownCap_ge w (n+m) c T,dH _,?_⟩;refine(nT w.drew (.cells ((b9 n f++b9 m g).toArray++oQ z0.cells (grownCap w (n+m) c T-(n+m))) T)).trans ?_;congr 2;apply fM;rw[nY,Array.toList_append,KE];show b9 n f++b9 m g++_=b9 (n+m) (cA n f g)++_;rw[<-KB]
theorem awT (q0 q:List Int):∀j,j<q0.length+q.length->cA q0.length (dm q0) (dm q) j=dm (q0++q) j:=by
 intro j hj;unfold dm;by_cases h:j<q0.length
 ·rw[JI h,pH,pH,iq h]
 ·have e:j=q0.length+(j-q0.length):=by omega
  rw[e,awz,pH,pH,AF (by omega)];simp
theorem afN {gl:Nat->Option Nat}:gv prog gl (OT (fr:=fr)):=by
 intro e op ids bl ch R ms w0 w K ρ o hg hl S ba ho h;unfold OT at h;split at h
 ·rename_i c;split at h
  ·rename_i s xs t tx fl cV ei;split at h
   ·rename_i T T' ht gG;split at h
    ·rename_i i m cc gn;split at h
     ·rename_i wr ty l hb;obtain⟨oe,ar,iO⟩:=c;simp only at fl cV ei;have e2:ar=#[s,xs]:=by rw[<-cV]
      have e3:iO=#[t,tx]:=by rw[<-ei]
      subst fl e2 e3;have aP:=(fV hl S hb).2;split at h
      ·rename_i j n c gV;split at h
       ·rename_i l0 wu;split at h
        ·rename_i q0 q NR hq;cases C1:az T 5&&(az q0.length n&&(az n c&&(az q.length m&&(bG 1 m&&(bG (n+m) 1000000&&bM bl.length bl)))))with
         |false=>rw[C1]at h;exact h.elim
         |true=>
          rw[C1]at h;simp only[bu]at C1;obtain⟨a1,a2,a3,a4,a5,a6,a7⟩:=C1;obtain rfl:=cz a1;obtain rfl:=cz a2;obtain rfl:=cz a3;obtain rfl:=cz a4;have a5:=dJ a5;have a6:=dJ a6;have Fs:=(fV hl S wu).2;rw[wZ ids NR]at Fs;rw[wZ ids hq]at aP;have tn:w.heap[ids.getD j 0]?=some (.cells (bI q0.length (dm q0) q0.length) 5 (0,0)):=by
           rw[Fs];simp[bI]
          have h8:cx w (ids.getD i 0) 0 q.length (dm q):=λk hk=>by
           rw[cell_of aP,eY];simp only[jQ];exact rJ _ hk
          obtain⟨b',c',w',bQ,cB,hle,eG,nu⟩:=awS (P:=prog) (ty:=o.type) (dH _) tn (A6 (c:=cc) h8 gG) ht (by kernel_rfl) (by omega) (by omega);obtain⟨d,rfl⟩:=Nat.le.dest hle;have Hf:=j_ (P:=prog) (ρ:=ρ) (o:=o) ho (by rw[ba,gV];simp only[den]) (by rw[ba,gn];simp only[den]) bQ;refine⟨_,[b'],_,ch,w',.inl ?_,by simp[hl],?_,h d⟩
          ·rw[Hf];simp only[den];rw[<-hl,kZ]
          ·have em:aD (ids++[b']) b' (dF (q0.length+q.length) d (dm (q0++q)))=⟨b',true,.cells (bI (q0.length+q.length) (cA q0.length (dm q0) (dm q)) (q0.length+q.length+d)) 5 (0,0)⟩:=by
            unfold aD;rw[xT,<-RT rfl (awT q0 q)];rfl
           rw[fC _ _ _ _ hl,fD _ _ (by rw[hl];exact a7)];simp only[lits,em];refine(S.new cB eG nu).perm ?_;rw[bU];exact jU.symm
        ·exact h.elim
       ·exact h.elim
      ·split at h
       ·rename_i z bx u g fB r rest cu;cases hq:az (ck l) (m*z)&&(bo 0 l&&(mI l&&bG bx 10000000))with
        |false=>rw[hq]at h;exact h.elim
        |true=>
         rw[hq]at h;simp only[cond_true]at h;simp only[bu]at hq;obtain⟨q1,q2,q3,q4⟩:=hq;have q1:=cz q1;have q4:=dJ q4;obtain⟨⟨hs,rfl,rfl,hn⟩,hK⟩:=h;have hi:(prog.info? r.T).map (λi=>(i.zero.map (·.cells.size),i.size,i.bytes))=some (some r.z,r.z,bx):=GO cu;have hd:ai ids l=ai [] l:=by have:=jg (ids:=[]) (more:=ids) l q2;simpa using this
         have hlen:(ai [] l).length=m*r.z:=by rw[<-q1];exact kY l
         have gd:Src prog r.z tx (.slice (some ⟨ids.getD i 0,0,none⟩) m cc) m (ai [] l) w:=by
          refine sW w gG ⟨ids.getD i 0,0,none⟩ m cc _ hlen (λj u hj=>?_) (λu hu=>Bc q3 u hu);rw[iS,cell_of aP,hd];simpa using hj
         have e1:lits ids ids bl++aC (LG.a_ u::LG.core g fB::LG.row r::rest) R=(lits ids ids bl++(dR u++(g.F.B++fB)))++(r.bl++aC rest R):=by
          simp only[Oz,bU]
         rw[e1]at S;have mM:(r.n+m)*bx<=140737488355328:=hY (Nat.mul_le_mul hn q4) (by decide);obtain⟨v,w',bQ,hc,x',c',bl',rfl,fZ,nu⟩:=Dq (P:=prog) (ty:=o.type) r.h (λy hy=>S.at' (by simp[hy])) bx gd ht hi mM (hY hn (by decide));have S2:=S.uE r.h.wr hc (λy hy=>(nu y hy).1) (λy hy=>(nu y hy).2) fZ.pw;refine⟨_,[],bl,_,w',.inl ?_,by simpa using hl,?_,hK ⟨r.T,r.z,_,x',r.n+m,c',bl',fZ⟩ rfl rfl rfl rfl⟩
         ·have:=j_ (P:=prog) (ρ:=ρ) (o:=o) ho (sv:=.slice r.x r.n r.c) (xv:=.slice (some ⟨ids.getD i 0,0,none⟩) m cc) (by rw[ba,hs];simp only[bm.v,den]) (by rw[ba,gn];simp only[den]) bQ;simpa[den,bm.v]using this
         ·rw[cH];have e4:lits ids ids bl++aC (LG.a_ u::LG.core g fB::LG.row ⟨r.T,r.z,r.os++ai [] l,x',r.n+m,c',bl',fZ⟩::rest) R=(lits ids ids bl++(dR u++(g.F.B++fB)))++(bl'++aC rest R):=by
           simp only[Oz,bU]
          rw[e4];exact S2
       ·exact h.elim
     ·exact h.elim
    ·exact h.elim
   ·exact h.elim
  ·exact h.elim
 ·exact h.elim
def nL (m:Sd.a9) (K:VK Empty):Prop:=br (fW prog (λ_=>none) ([]:List (bR Empty)) (zj prog) Bx) 60 46 [.agg (cQ m)] [] [] (bA 0 K)
def qX (m:Sd.a9):List (Int×Int×Int×Nat):=(m.seq,0,4294967295,4)::
 (if m.kind=5 then[(if m.now then 1 else 0,0,1,1)]else if m.kind=6 then[(m.aT,0,4,1)]else if m.kind=7 then[(m.ah,0,65535,2)]else if m.kind=10 then[(m.ah,0,65535,2),(m.mode,0,4,1)]else[])
theorem awU (s:Int) (K:VK Empty):nL {Sd.c_ 3 with seq:=s} K=m9 3 [(s,0,4294967295,4)] K:=by
 unfold nL;kernel_rfl
theorem awV (s:Int) (K:VK Empty):nL {Sd.c_ 9 with seq:=s} K=m9 9 [(s,0,4294967295,4)] K:=by
 unfold nL;kernel_rfl
theorem awW (s:Int) (K:VK Empty):nL {Sd.c_ 5 with seq:=s,now:=true} K=m9 5 [(s,0,4294967295,4),(1,0,1,1)] K:=by
 unfold nL;kernel_rfl
theorem awX (s:Int) (K:VK Empty):nL {Sd.c_ 5 with seq:=s,now:=false} K=m9 5 [(s,0,4294967295,4),(0,0,1,1)] K:=by
 unfold nL;kernel_rfl
theorem awY (s t:Int) (K:VK Empty):nL {Sd.c_ 6 with seq:=s,aT:=t} K=m9 6 [(s,0,4294967295,4),(t,0,4,1)] K:=by
 unfold nL;kernel_rfl
theorem awZ (s e:Int) (K:VK Empty):nL {Sd.c_ 7 with seq:=s,ah:=e} K=m9 7 [(s,0,4294967295,4),(e,0,65535,2)] K:=by
 unfold nL;kernel_rfl
theorem aw0 (s e x:Int) (K:VK Empty):nL {Sd.c_ 10 with seq:=s,ah:=e,mode:=x} K=m9 10 [(s,0,4294967295,4),(e,0,65535,2),(x,0,4,1)] K:=by
 unfold nL;kernel_rfl
def kW (m:Sd.a9):Prop:=(0<=m.seq/\m.seq<=4294967295)/\(((m.kind=3\/m.kind=9)/\m={Sd.c_ m.kind with seq:=m.seq})\/(m.kind=5/\m={Sd.c_ 5 with seq:=m.seq,now:=m.now})\/(m.kind=6/\(0<=m.aT/\m.aT<=4)/\m={Sd.c_ 6 with seq:=m.seq,aT:=m.aT})\/
 (m.kind=7/\(0<=m.ah/\m.ah<=65535)/\m={Sd.c_ 7 with seq:=m.seq,ah:=m.ah})\/(m.kind=10/\(0<=m.ah/\m.ah<=65535)/\(0<=m.mode/\m.mode<=4)/\m={Sd.c_ 10 with seq:=m.seq,ah:=m.ah,mode:=m.mode}))
theorem aw1 {m:Sd.a9} (h:kW m) (K:VK Empty):nL m K=m9 m.kind (qX m) K:=by
 obtain⟨_,⟨h|h,e⟩|⟨h,e⟩|⟨h,_,e⟩|⟨h,_,e⟩|⟨h,_,_,e⟩⟩:=h
 ·rw[h]at e;rw[e];exact awU _ K
 ·rw[h]at e;rw[e];exact awV _ K
 ·rw[e];cases m.now with
  |true=>exact awW _ K
  |false=>exact awX _ K
 ·rw[e];exact awY _ _ K
 ·rw[e];exact awZ _ _ K
 ·rw[e];exact aw0 _ _ _ K
theorem aw2 {m:Sd.a9} (h:kW m):∀f∈qX m,f.2.1<=f.1/\f.1<=f.2.2.1/\0<=f.1/\f.1<18446744073709551616/\f.1<db (2^(8*f.2.2.2)):=by
 have hs:(0<=m.seq/\m.seq<=4294967295/\0<=m.seq/\m.seq<18446744073709551616/\m.seq<db (2^(8*4))):=by
  have:=h.1;refine⟨this.1,this.2,this.1,by omega,?_⟩;show m.seq<4294967296;omega
 intro f hf;unfold qX at hf;rcases cn.1 hf with rfl|hf
 ·exact hs
 obtain⟨_,⟨k|k,e⟩|⟨k,e⟩|⟨k,b,e⟩|⟨k,b,e⟩|⟨k,b,b2,e⟩⟩:=h<;>simp only[k,AT,if_true,if_false]at hf
 ·cases hf
 ·cases hf
 ·obtain rfl:=iH.1 hf;cases m.now<;>exact⟨by decide,by decide,by decide,by decide,by decide⟩
 ·obtain rfl:=iH.1 hf;exact⟨b.1,b.2,b.1,by show m.aT<_;omega,by show m.aT<256;omega⟩
 ·obtain rfl:=iH.1 hf;exact⟨b.1,b.2,b.1,by show m.ah<_;omega,by show m.ah<65536;omega⟩
 ·rcases cn.1 hf with rfl|hf
  ·exact⟨b.1,b.2,b.1,by show m.ah<_;omega,by show m.ah<65536;omega⟩
  ·obtain rfl:=iH.1 hf;exact⟨b2.1,b2.2,b2.1,by show m.mode<_;omega,by show m.mode<256;omega⟩
def jM (m:Sd.a9):List Int:=m.kind::((qX m).map λf=>(bw f.2.2.2).map (aN f.2.2.2 (u64.wrap f.1))).flatten
def nM (m:Sd.a9):Nat->Int:=dm (jM m)
def dr (m:Sd.a9):Nat:=(jM m).length
theorem afO:∀r:List Int,kJ (r.map (V.int .u8))=some r
 |[]=>rfl
 |x::r=>by simp only[eF,kJ,afO r]
theorem aw3 (m:Sd.a9):[V.int .u8 m.kind]++((qX m).map λf=>kx f.2.2.2 f.1).flatten=(jM m).map (V.int .u8):=by
 have e:∀l:List (Int×Int×Int×Nat),(l.map λf=>kx f.2.2.2 f.1).flatten=((l.map λf=>(bw f.2.2.2).map (aN f.2.2.2 (u64.wrap f.1))).flatten).map (V.int .u8):=by
  intro l;induction l with
  |nil=>rfl
  |cons f l ih=>
   simp only[eF,List.flatten_cons,rk,ih];congr 1;unfold kx;rw[lQ];rfl
 rw[e];rfl
theorem afP:∀r:List Int,ck (r.map (V.int .u8))=r.length
 |[]=>rfl
 |x::r=>by simp only[eF,ck,afP r,h_];show 1+_=_;omega
theorem aw4 (m:Sd.a9):1+((qX m).map λf=>f.2.2.2).sum=dr m:=by
 have e:∀l:List (Int×Int×Int×Nat),((l.map λf=>(bw f.2.2.2).map (aN f.2.2.2 (u64.wrap f.1))).flatten).length=(l.map λf=>f.2.2.2).sum:=by
  intro l;induction l with
  |nil=>rfl
  |cons f l ih=>simp only[eF,List.flatten_cons,ft,List.length_map,Ka,ih,List.sum_cons]
 unfold dr jM;rw[h_,e];omega
theorem aw5 {m:Sd.a9} (h:kW m) (w:ag):aV prog 46 #[.agg (Mi m)] w λv w1=>∃b c u,v=.tuple #[.slice (some ⟨b,0,none⟩) (dr m) c,.int .i64 0]/\dr m<=c/\u.length=c-dr m/\w.heap.size<=b/\w1.heap[b]?=some (.cells (b9 (dr m) (nM m)++u).toArray 5 (0,0))/\Ch [] w w1:=by
 have hv:nL m λv b _=>∃c u,dr m<=c/\u.length=c-dr m/\v=.av [.sl 0 0 (dr m) c,.int .i64 0]/\b=[⟨true,⟨5,(0,0)⟩,(jM m).map (V.int .u8)++[.rest u]⟩]:=by
  rw[aw1 h];refine ae9 (aw2 h) λc u h1 h2=>?_;rw[aw4]at h1⊢;rw[aw3]at h2⊢;rw[ae7,afP]at h2;refine⟨c,u,h1,?_,rfl,rfl⟩;have:ck [V.rest u]=u.length:=by show u.length+0=_;rfl
  rw[this]at h2;unfold dr;omega
 have ea:(aH [] [.agg (cQ m)]).toArray=#[.agg (Mi m)]:=by simp only[aH,aci]
 rw[<-ea];refine(eO (aI.nil (G:=Empty) (P:=prog) (gl:=λ_=>none)).T (aI.nil (G:=Empty) (P:=prog) (gl:=λ_=>none)).Q 60 (C:=fW prog (λ_=>none) ([]:List (bR Empty)) (zj prog) Bx) (ids:=[]) (bl:=[]) (ch:=[]) (R:=[]) Gl.none rfl (St.nil [] w) hv).mono ?_;rintro v w' ⟨y,more,bl',ch',rfl,h1,S',hK⟩;obtain⟨v2,cJ,bl2,e2,dv,S2,c,u,hc,hu,rfl,rfl⟩:=iB (n0:=0) h1 (by simp) S' hK
 match cJ,dv,S2,e2 with
 |[b],_,S2,e2=>
  have S3:St [] w [aD [b] b ⟨true,⟨5,(0,0)⟩,(jM m).map (V.int .u8)++[.rest u]⟩] w':=match ch',S2 with
   |[],S2=>S2
   |e::_,_=>nomatch e
  refine⟨b,c,u,e2,hc,hu,(S3.own 0 _ rfl rfl).resolve_left (by simp),?_,S3.ch⟩;have aP:w'.heap[b]?=some (.cells (ai [b] ((jM m).map (V.int .u8)++[.rest u])).toArray 5 (0,0)):=S3.at_ 0 _ rfl;rw[aP,iV,wZ [b] (afO (jM m))];have:ai [b] [V.rest u]=u:=by simp[ai,cl]
  rw[this];rfl
def JL:dc (LG fr):=λargs bl ch K=>match args with
 |[.agg l]=>(match zK l with
  |some m=>cond (bM bl.length bl) (kW m/\∀(d:Nat) (u:List ae),K (.av [.sl bl.length 0 (dr m) (dr m+d),.int .i64 0]) (bl++[⟨true,⟨5,(0,0)⟩,[.bS .u8 (dr m) (nM m),.rest u]⟩]) ch) False
  |none=>False)
 |_=>False
theorem aw6 {gl:Nat->Option Nat}:Sound prog gl 46 (JL (fr:=fr)):=by
 intro args ids bl ch R ms w0 w K hg hl S hc;unfold JL at hc;split at hc
 ·rename_i l;split at hc
  ·rename_i m hm;cases hw:bM bl.length bl with
   |false=>rw[hw]at hc;exact hc.elim
   |true=>
    rw[hw]at hc;obtain⟨hp,hK⟩:=hc;obtain rfl:=Ew hm;have ea:(aH ids [.agg (cQ m)]).toArray=#[.agg (Mi m)]:=by simp only[aH,aci]
    rw[ea];refine(aw5 hp w).mono ?_;rintro v w' ⟨b,c,u,rfl,hle,hu,eG,aP,cB⟩;obtain⟨d,rfl⟩:=Nat.le.dest hle;refine⟨_,[b],_,_,?_,by simp[hl],?_,hK d u⟩
    ·have:(ids++[b]).getD bl.length 0=b:=by rw[<-hl];simp[ir]
     simp only[den,aH,this]
    ·have em:aD (ids++[b]) b ⟨true,⟨5,(0,0)⟩,[.bS .u8 (dr m) (nM m),.rest u]⟩=⟨b,true,.cells (b9 (dr m) (nM m)++u).toArray 5 (0,0)⟩:=by
      unfold aD;simp only[ai,cl,cH];rfl
     rw[fC _ _ _ _ hl,fD _ _ (by rw[hl];exact hw)];simp only[lits,em];refine(S.new cB eG aP).perm ?_;rw[bU];exact jU.symm
  ·exact hc.elim
 ·exact hc.elim
theorem aw7:ia (JL (fr:=fr)):=by
 intro args bl ch K hc;unfold JL at hc⊢;split at hc
 ·split at hc
  ·revert hc;cases bM bl.length bl with
   |false=>exact λh=>h.elim
   |true=>exact λh=>⟨h.1,λd u=>⟨h.2 d u,_,rfl⟩⟩
  ·exact hc.elim
 ·exact hc.elim
theorem aw8 {m:Sd.a9} (h:kW m) {f:Nat->Int} (hf:∀j,j<dr m->f j=nM m j):ay (dr m) f=some m:=by
 obtain⟨hs,h⟩:=h;have at_:∀j,j<dr m->f j=(jM m).getD j 0:=hf;rcases h with⟨h|h,e⟩|⟨h,e⟩|⟨h,b,e⟩|⟨h,b,e⟩|⟨h,b,b2,e⟩
 ·rw[h]at e;have eI:jM m=[3,aN 4 (u64.wrap m.seq) 0,aN 4 (u64.wrap m.seq) 1,aN 4 (u64.wrap m.seq) 2,aN 4 (u64.wrap m.seq) 3]:=by unfold jM qX;simp only[h,AT,if_false];rfl
  have eN:dr m=5:=by unfold dr;rw[eI];rfl
  rw[eN,eI]at at_;rw[eN];refine(awG (v:=m.seq) ⟨at_ 0 (by decide),hs,at_ 1 (by decide),at_ 2 (by decide),at_ 3 (by decide),at_ 4 (by decide)⟩).trans (congrArg some e.symm)
 ·rw[h]at e;have eI:jM m=[9,aN 4 (u64.wrap m.seq) 0,aN 4 (u64.wrap m.seq) 1,aN 4 (u64.wrap m.seq) 2,aN 4 (u64.wrap m.seq) 3]:=by unfold jM qX;simp only[h,AT,if_false];rfl
  have eN:dr m=5:=by unfold dr;rw[eI];rfl
  rw[eN,eI]at at_;rw[eN];refine(awH (v:=m.seq) ⟨at_ 0 (by decide),hs,at_ 1 (by decide),at_ 2 (by decide),at_ 3 (by decide),at_ 4 (by decide)⟩).trans (congrArg some e.symm)
 ·have eI:jM m=[5,aN 4 (u64.wrap m.seq) 0,aN 4 (u64.wrap m.seq) 1,aN 4 (u64.wrap m.seq) 2,aN 4 (u64.wrap m.seq) 3,aN 1 (u64.wrap (if m.now then 1 else 0)) 0]:=by unfold jM qX;simp only[h,AT,if_true];rfl
  have eN:dr m=6:=by unfold dr;rw[eI];rfl
  rw[eN,eI]at at_;rw[eN];refine(awI (v:=m.seq) (b:=m.now) ⟨at_ 0 (by decide),hs,at_ 1 (by decide),at_ 2 (by decide),at_ 3 (by decide),at_ 4 (by decide)⟩ (at_ 5 (by decide))).trans (congrArg some e.symm)
 ·have eI:jM m=[6,aN 4 (u64.wrap m.seq) 0,aN 4 (u64.wrap m.seq) 1,aN 4 (u64.wrap m.seq) 2,aN 4 (u64.wrap m.seq) 3,aN 1 (u64.wrap m.aT) 0]:=by unfold jM qX;simp only[h,AT,if_true,if_false];rfl
  have eN:dr m=6:=by unfold dr;rw[eI];rfl
  rw[eN,eI]at at_;rw[eN];refine(awJ (v:=m.seq) (w:=m.aT) ⟨at_ 0 (by decide),hs,at_ 1 (by decide),at_ 2 (by decide),at_ 3 (by decide),at_ 4 (by decide)⟩ b (at_ 5 (by decide))).trans (congrArg some e.symm)
 ·have eI:jM m=[7,aN 4 (u64.wrap m.seq) 0,aN 4 (u64.wrap m.seq) 1,aN 4 (u64.wrap m.seq) 2,aN 4 (u64.wrap m.seq) 3,aN 2 (u64.wrap m.ah) 0,aN 2 (u64.wrap m.ah) 1]:=by unfold jM qX;simp only[h,AT,if_true,if_false];rfl
  have eN:dr m=7:=by unfold dr;rw[eI];rfl
  rw[eN,eI]at at_;rw[eN];refine(awK (v:=m.seq) (w:=m.ah) ⟨at_ 0 (by decide),hs,at_ 1 (by decide),at_ 2 (by decide),at_ 3 (by decide),at_ 4 (by decide)⟩ b (at_ 5 (by decide)) (at_ 6 (by decide))).trans (congrArg some e.symm)
 ·have eI:jM m=[10,aN 4 (u64.wrap m.seq) 0,aN 4 (u64.wrap m.seq) 1,aN 4 (u64.wrap m.seq) 2,aN 4 (u64.wrap m.seq) 3,aN 2 (u64.wrap m.ah) 0,aN 2 (u64.wrap m.ah) 1,aN 1 (u64.wrap m.mode) 0]:=by unfold jM qX;simp only[h,AT,if_true,if_false];rfl
  have eN:dr m=8:=by unfold dr;rw[eI];rfl
  rw[eN,eI]at at_;rw[eN];refine(awL (v:=m.seq) (w:=m.ah) (x:=m.mode) ⟨at_ 0 (by decide),hs,at_ 1 (by decide),at_ 2 (by decide),at_ 3 (by decide),at_ 4 (by decide)⟩ b b2 (at_ 5 (by decide)) (at_ 6 (by decide)) (at_ 7 (by decide))).trans (congrArg some e.symm)
end
end Go.Proofs.YtggfpcggakghnaaGreatDoor
namespace Sd
variable{C:aK} {s:aa} {c:Core} {k:Int}
structure Still (t:aw) (m j:Int):Prop where
 st:t.cN.1=false
 ak:∀i,i<3->(t.ak i).on=true->(t.ak i).cI.most=m/\0<=(t.ak i).cI.n/\(t.ak i).cI.n<=j
theorem Xc {t:Timer} {m j:Int} (h:t.most=m/\0<=t.n/\t.n<=j) (hj:j+1<m):t.step=⟨t.n+1,m⟩/\t.step.due=false:=by
 obtain⟨n,q⟩:=t;simp only at h;obtain⟨rfl,h0,h1⟩:=h;have e:(⟨n,q⟩:Timer).step=⟨n+1,q⟩:=by
  unfold Timer.step sat;simp only;rw[if_pos (by omega)]
 exact⟨e,by rw[e];unfold Timer.due;exact decide_eq_false (by simp only;omega)⟩
theorem Xd {t:aw} {m j:Int} (h:Still t m j) (hj:j+1<m) {i:Nat} (hi:i<3):t.fA i=false:=by
 unfold aw.fA;cases ho:(t.ak i).on with
 |false=>rfl
 |true=>rw[(Xc (h.ak i hi ho) hj).2];rfl
theorem aw9 {t:aw} {m j:Int} (h:Still t m j) (hj:j+1<m):t.ended=[]:=by
 unfold aw.ended aw.uK;rw[h.st,Xd h hj (by decide),Xd h hj (by decide),Xd h hj (by decide)];rfl
theorem afQ {t:aw} {m j:Int} (h:Still t m j) (hj:j+1<m) {i:Nat} (hi:i<3):(t.tick.ak i).on=(t.ak i).on:=by
 unfold aw.tick;simp only;cases ho:(t.ak i).on with
 |false=>simp[ho]
 |true=>simp only[if_true,(Xc (h.ak i hi ho) hj).2];simp[ho]
theorem aw_ {t:aw} {m j:Int} (h:Still t m j) (hj:j+1<m):Still t.tick m (j+1):=by
 refine⟨by unfold aw.tick;simp[h.st],λi hi ho=>?_⟩;rw[afQ h hj hi]at ho;obtain⟨e1,e2⟩:=Xc (h.ak i hi ho) hj;have h3:=h.ak i hi ho;have e:(t.tick.ak i).cI=⟨(t.ak i).cI.n+1,m⟩:=by
  unfold aw.tick;simp only[ho,if_true,e2];simp[e1]
 rw[e];exact⟨rfl,by simp only;omega,by simp only;omega⟩
theorem OU {t:aw} {m j:Int} (h:Still t m j) (hj:j+1<m) (hk:1<=k/\k<=3):t.tick.cj k=t.cj k:=by
 rw[lN hk,lN hk,afQ h hj (by omega)]
theorem afR {p:aO} {t:Tok} {q:List Ask}:dW p t q true=({t with la:=.zero},0,q):=by
 unfold dW;rw[if_pos (.inr rfl)]
structure TS (p:aO) (a b E off ask:Int) (j:Nat) (c:Core):Prop where
 cp:c.p=p
 ct:c.t=⟨a,E,if(j:Int)<off then b else-1,if(j:Int)<off then⟨j,off⟩else .zero,.zero,false⟩
 cq:c.q=if(j:Int)<ask then[⟨b,bb p b,⟨j,ask⟩⟩]else[]
 still:Still c.af 900 j
 a:c.af.cj a=true
 b:c.af.cj b=true
def OV (b:Int):aF:={kind:=136,cX:=b,code:=30}
theorem axa {p:aO} {a b E off ask:Int} {j:Nat} (ha:1<=a/\a<=3) (hb:1<=b/\b<=3) (h:TS p a b E off ask j c) (hj:(j:Int)+1<900):
 TS p a b E off ask (j+1) (JE c).1/\(JE c).2=(if(j:Int)+1=off then[(a,OV b)]else[])++(if(j:Int)+1=ask then[(b,OV b)]else[])/\c.af.ended=[]/\(dW c.p c.t.tick.1 (Q.kept c.q) (c.af.tick.on c.t.tick.1.aG)).2.1<=0:=by
 have fa:c.af.tick.on a=true:=by rw[vH ha,OU h.still hj ha];exact h.a
 have VT:c.af.tick.on b=true:=by rw[vH hb,OU h.still hj hb];exact h.b
 have ht:c.t.tick=(⟨a,E,if((j+1:Nat):Int)<off then b else-1,if((j+1:Nat):Int)<off then⟨(j+1:Nat),off⟩else .zero,.zero,false⟩,if(j:Int)+1=off then b else-1):=by
  rw[h.ct];unfold Tok.tick;by_cases h1:(j:Int)<off
  ·simp only[if_pos h1];rw[if_neg (by omega)];have e:(⟨(j:Int),off⟩:Timer).step=⟨(j:Int)+1,off⟩:=by unfold Timer.step sat;simp only;rw[if_pos h1]
   rw[e];by_cases h2:(j:Int)+1=off
   ·rw[if_pos (show Timer.due ⟨(j:Int)+1,off⟩=true by unfold Timer.due;exact decide_eq_true (by simp only;omega)),if_pos h2,if_neg (by omega),if_neg (by omega)];rfl
   ·rw[if_neg (show¬Timer.due ⟨(j:Int)+1,off⟩=true by unfold Timer.due;simp only[decide_eq_true_eq];omega),if_neg h2,if_pos (by omega),if_pos (by omega)];rfl
  ·simp only[if_neg h1];rw[if_pos (by decide),if_neg (show¬((j+1:Nat):Int)<off by omega),if_neg (show¬((j+1:Nat):Int)<off by omega),if_neg (show¬(j:Int)+1=off by omega)]
 have hq:Q.kept c.q=(if((j+1:Nat):Int)<ask then[⟨b,bb p b,⟨(j+1:Nat),ask⟩⟩]else[])/\Q.gone c.q=(if(j:Int)+1=ask then[⟨b,bb p b,⟨(j+1:Nat),ask⟩⟩]else[]):=by
  rw[h.cq];by_cases h1:(j:Int)<ask
  ·rw[if_pos h1];have e:(⟨(j:Int),ask⟩:Timer).step=⟨((j+1:Nat):Int),ask⟩:=by unfold Timer.step sat;simp only;rw[if_pos h1];rfl
   unfold Q.kept Q.gone Q.mE;simp only[eF,s8,e];by_cases h2:(j:Int)+1=ask
   ·have hd:Timer.due ⟨((j+1:Nat):Int),ask⟩=true:=by unfold Timer.due;exact decide_eq_true (by simp only;omega)
    rw[if_pos h2,if_neg (by omega)];generalize ((j+1:Nat):Int)=x at hd⊢;simp[hd]
   ·have hd:Timer.due ⟨((j+1:Nat):Int),ask⟩=false:=by unfold Timer.due;exact decide_eq_false (by simp only;omega)
    rw[if_neg h2,if_pos (by omega)];generalize ((j+1:Nat):Int)=x at hd⊢;simp[hd]
  ·rw[if_neg h1,if_neg (by omega),if_neg (by omega)];exact⟨rfl,rfl⟩
 have afS:dW c.p c.t.tick.1 (Q.kept c.q) (c.af.tick.on c.t.tick.1.aG)=(⟨a,E,if((j+1:Nat):Int)<off then b else-1,if((j+1:Nat):Int)<off then⟨(j+1:Nat),off⟩else .zero,.zero,false⟩,0,Q.kept c.q):=by
  rw[ht];show dW _ _ _ (c.af.tick.on a)=_;rw[fa,afR]
 refine⟨⟨h.cp,?_,hq.1,?_,?_,?_⟩,?_,aw9 h.still hj,?_⟩
 ·show(dW c.p c.t.tick.1 (Q.kept c.q) (c.af.tick.on c.t.tick.1.aG)).1=_;rw[afS]
 ·have:=aw_ h.still hj;rw[show((j+1:Nat):Int)=(j:Int)+1 by omega];exact this
 ·show c.af.tick.cj a=true;rw[OU h.still hj ha];exact h.a
 ·show c.af.tick.cj b=true;rw[OU h.still hj hb];exact h.b
 ·unfold JE;rw[hq.2,ht];dsimp only;congr 1
  ·by_cases h2:(j:Int)+1=off
   ·rw[if_pos h2,if_pos h2,if_pos (by omega)];exact JF ha fa _
   ·rw[if_neg h2,if_neg h2,if_neg (by decide)]
  ·by_cases h2:(j:Int)+1=ask
   ·rw[if_pos h2,if_pos h2];simp only[List.flatMap_cons,List.flatMap_nil,cH];exact JF hb VT _
   ·rw[if_neg h2,if_neg h2];rfl
 ·rw[afS];exact Int.le_refl _
end Sd
namespace Sd
variable{C:aK} {s:aa} {c:Core} {l:List (Int×aF)} {k:Int}
structure Xe (t:aw) (B:Int) (a b d:Int) (ja:Int) (vI:Bool):Prop where
 st:t.cN.1=false
 oa:t.cj a=vI
 sa:vI=true->(t.ak (a.toNat-1)).cI=⟨ja,B⟩
 ob:t.cj b=true
 sb:(t.ak (b.toNat-1)).cI=⟨0,B⟩
 od:t.cj d=true
 sd:(t.ak (d.toNat-1)).cI=⟨0,B⟩
def ly (p:aO) (x y j:Int):List Ask:=[⟨x,bb p x,⟨j,900⟩⟩,⟨y,bb p y,⟨j,900⟩⟩]
structure RS (p:aO) (a b d x y E B L m:Int) (bx:Label) (j:Nat) (c:Core):Prop where
 cp:c.p=p
 ct:c.t=⟨a,E,-1,.zero,if(j:Int)<B then .zero else⟨(j:Int)-B+1,L⟩,false⟩
 cq:c.q=ly p x y j
 af:Xe c.af B a b d j (decide ((j:Int)<B))
 cm:c.mode=m
 cb:c.d_=bx
end Sd
namespace Sd
variable{C:aK} {s:aa} {c:Core} {l:List (Int×aF)} {k:Int} {m:a9}
structure yg (p:aO):Prop where
 A9:∀i,10<=i/\i<=12->p.i i=14
 table:∀i,14<=i/\i<=33->p.i i=15
 graph:∀i,34<=i/\i<=38->p.i i=31
theorem yg.jf {p:aO} (h:yg p) {r:Int} (hk:1<=k/\k<=3) (hr:1<=r/\r<=3):jf p k r=true:=by
 have e:p.A9 k.toNat=14:=h.A9 (9+k.toNat) (by omega);unfold Sd.jf;rw[e];rcases(by omega:k=1\/k=2\/k=3)with rfl|rfl|rfl<;>rcases(by omega:r=1\/r=2\/r=3)with rfl|rfl|rfl<;>decide
theorem yg.may {p:aO} (h:yg p) {mo r:Int} (hm:0<=mo/\mo<=4) (hr:0<=r/\r<=3):may p mo r 0=true:=by
 have e:p.table mo.toNat r.toNat=15:=h.table (14+4*mo.toNat+r.toNat) (by omega);unfold Sd.may;rw[e];rcases(by omega:mo=0\/mo=1\/mo=2\/mo=3\/mo=4)with rfl|rfl|rfl|rfl|rfl<;>rcases(by omega:r=0\/r=1\/r=2\/r=3)with rfl|rfl|rfl|rfl<;>decide
theorem yg.goes {p:aO} (h:yg p) {mo m2:Int} (hm:0<=mo/\mo<=4) (hr:0<=m2/\m2<=4):goes p mo m2=true:=by
 have e:p.graph mo.toNat=31:=h.graph (34+mo.toNat) (by omega);unfold Sd.goes;rw[e];rcases(by omega:mo=0\/mo=1\/mo=2\/mo=3\/mo=4)with rfl|rfl|rfl|rfl|rfl<;>rcases(by omega:m2=0\/m2=1\/m2=2\/m2=3\/m2=4)with rfl|rfl|rfl|rfl|rfl<;>decide
variable{p:aO} {a b:Int} {ka kb:ao} {ra rb:Int} {ha hb:Int} {t:Tok} {mode:Int} {bx:Label} {q:List Ask}
theorem Xh (hT:yf C) (h:HS p a b ka kb ra rb c ha hb t mode bx q) (jJ:a≠b) (hm:m.kind=5) (hn:ha<m.seq/\0<=m.seq/\m.seq<=4294967295) (axh:m.now=false) (h4:t.aG≠4) (hh:a≠t.aG) (Xa:t.bad=false) (he:t.ah<65535) (hw:Q.waits q a=false) (hl:(q.length:Int)<p.queue):
 HS p a b ka kb ra rb (fp C c a m).1 m.seq hb t mode bx (Q.insert q ⟨a,bb p a,.start p.ask⟩)/\(fp C c a m).2=[(a,{kind:=131,seq:=m.seq})]:=by
 have h1:=(h.bV hT jJ hn).2;have e:=(afx (C:=C) (c:=c) (k:=a) hm).trans (awn (c:=bt C c a m) (by show c.t.bad=false;rw[h.t];exact Xa) (by show c.t.aG≠4;rw[h.t];exact h4) (by show a≠c.t.aG;rw[h.t];exact hh) (by show c.t.ah<65535;rw[h.t];exact he) axh (by show Q.waits c.q a=false;rw[h.q];exact hw) (by show(c.q.length:Int)<c.p.queue;rw[h.q,h.p];exact hl));rw[e];refine⟨?_,rfl⟩;have h2:=h1.W_ (c':={bt C c a m with q:=Q.insert c.q ⟨a,bb c.p a,.start c.p.ask⟩}) rfl rfl;have e2:c.t=t:=h.t;have e3:c.mode=mode:=h.m;have e4:c.d_=bx:=h.mb;have e5:Q.insert c.q ⟨a,bb c.p a,.start c.p.ask⟩=Q.insert q ⟨a,bb p a,.start p.ask⟩:=by rw[h.q,h.p]
 simpa only[e2,e3,e4,e5]using h2
theorem start_eq {m:Int} (h:0<=m):Timer.start m=⟨0,m⟩:=by unfold Timer.start;rw[show max m 0=m by omega]
theorem axi (m:Int):Still aw.new m 0:=⟨rfl,λi _ ho=>by simp[aw.new,fN.zero]at ho⟩
theorem afZ {t:aw} {m:Int} (hm:0<=m) (h:Still t m 0) (i0:Nat) (x:fN) (hx:x.cI=.start m):Still (t.eD i0 x) m 0:=by
 refine⟨h.st,λi hi ho=>?_⟩;unfold aw.eD at ho⊢;simp only at ho⊢;by_cases e:i=i0
 ·rw[if_pos e,hx,start_eq hm];exact⟨rfl,Int.le_refl _,Int.le_refl _⟩
 ·rw[if_neg e]at ho⊢;exact h.ak i hi ho
theorem af0 {r m:Int} (hm:0<=m) (hp:c.p.bV=m) (h:Still c.af m 0):Still (dU C c k r).af m 0:=afZ hm h _ _ (by rw[hp])
theorem Xi {n m:Int} (hm:0<=m) (hp:c.p.bV=m) (h:Still c.af m 0):Still (c.af.eK C c.p k n) m 0:=afZ hm h _ _ (by rw[hp])
end Sd
namespace Go.Proofs.YtggfpcggakghnaaGreatDoor
section
open Go Go.RowKit Go.BigFrame Sx Vx
section
variable{G:Type} [Bl G]
theorem axk {C:Ctx G} {f n:Nat} {ids:List Nat} {bl:List VB} {ch0 rest:List G} {R:List aj} {ms:List Nat} {w0 w:ag} (hT:∀f c,C.T f=some c->Sound C.P C.gl f c) (hQ:ql C) (hl:ids.length=bl.length) (S:St ms w0 (lits ids ids bl++aC (ch0++rest) R) w)
 (is:List Nat) (hn:is.Nodup) (hg:Gl C.gl (is.map λi=>ids.getD i 0)) (bs:List VB) (hb:is.map (bl[·]?)=bs.map some) (hw:bM 0 bs=true) {args args':List V} (cV:aH ids args=aH (is.map λi=>ids.getD i 0) args') {P:V->List G->Prop}
 (cS:br C n f args' bs ch0 (bA bs.length λv b c=>cR 0 v=true/\b.take bs.length=bs/\∃c2,c=ch0++c2/\P v c2)):aV C.P f (aH ids args).toArray w λv w'=>∃v0 c2,v=den [] v0/\P v0 c2/\St ms w0 (lits ids ids bl++aC (ch0++(c2++rest)) R) w':=by
 have hlen:is.length=bs.length:=by have:=congrArg List.length hb;simpa using this
 have rp:∀(k i:Nat),is[k]?=some i->∃b,bs[k]?=some b/\bl[i]?=some b:=by
  intro k i hk;have:=congrArg (λl=>l[k]?) hb;simp only[jt,hk,mz]at this;cases Jl:bs[k]?with
  |none=>rw[Jl]at this;simp at this
  |some b=>rw[Jl]at this;simp only[mz,aY]at this;exact⟨b,rfl,this⟩
 have dL:∀i∈is,i<bl.length:=by
  intro i hi;obtain⟨k,hk⟩:=AG hi;obtain⟨b,_,h2⟩:=rp k i hk;exact iZ h2
 obtain⟨r,hr,hp⟩:=zW (bl:=bl) (ids:=ids) hl hn dL;have gE:=hp bl rfl;have DJ:∀(CP:List Nat),(is.map λj=>aD ids (ids.getD j 0) (bl.getD j dk))=lits CP (is.map λi=>ids.getD i 0) bs:=by
  intro CP;clear hr hp gE cV cS dL hg;induction is generalizing bs with
  |nil=>simp[lits]
  |cons i is ih=>
   cases bs with
   |nil=>simp at hlen
   |cons b bs=>
    simp only[eF,List.cons.injEq]at hb;simp only[bM,bu]at hw;simp only[eF,lits,iY hb.1];rw[nC (ids':=CP) hw.1,ih (ri.1 hn).2 bs hb.2 hw.2 (by simpa using hlen) (λk i hk=>rp (k+1) i (by simpa using hk))]
 rw[DJ (is.map λi=>ids.getD i 0)]at gE;have S1:St ms w0 (lits (is.map λi=>ids.getD i 0) (is.map λi=>ids.getD i 0) bs++aC ch0 ((r.map λj=>aD ids (ids.getD j 0) (bl.getD j dk))++aC rest R)) w:=by
  refine S.perm ((gE.append_right _).trans ?_);rw[nt,iX (aC rest R) ch0,iX ((r.map λj=>aD ids (ids.getD j 0) (bl.getD j dk))++aC rest R) ch0];exact ij λf=>by simp only[iI];omega
 rw[cV];refine(eO hT hQ n hg (by simpa using hlen) S1 cS).mono ?_;rintro v w' ⟨x,Jm,bl0,ch',rfl,tv,S0,hK⟩;obtain⟨v2,more,bl',hv,mS,S2,sO,WA,c2,rfl,hP⟩:=iB (n0:=bs.length) tv (by simp[hlen]) S0 hK;have NF:((is.map λi=>ids.getD i 0)++Jm).take bs.length=is.map λi=>ids.getD i 0:=by rw[<-hlen];have:=List.take_left (l₁:=is.map λi=>ids.getD i 0) (l₂:=Jm);simpa using this
 rw[NF]at hv mS S2;refine⟨v2,c2,by rw[hv];have:=gf (ids:=[]) (more:=(is.map λi=>ids.getD i 0)++more) v2 sO;simpa using this,hP,?_⟩;have oE:bl'=bs++bl'.drop bs.length:=by have:=jS bs.length bl';rw[WA]at this;exact this.symm
 rw[oE,fC _ _ _ _ (by simpa using hlen),Ae (ids':=is.map λi=>ids.getD i 0) (is.map λi=>ids.getD i 0) bs hw]at S2;rw[nt,iX _ ch0,iX _ c2]at S2;have S3:St ms w0 (lits (is.map λi=>ids.getD i 0) (is.map λi=>ids.getD i 0) bs++(aC ch0 []++(aC c2 []++((r.map λj=>aD ids (ids.getD j 0) (bl.getD j dk))++aC rest R)))) w':=by
  refine S2.sub ?_;rw[bU];refine uv ?_ _;exact mA _ _
 refine S3.perm (Dg ?_ (gE.symm.append_right _));rw[nt,iX (aC (c2++rest) R) ch0,nt,iX (aC rest R) c2];exact ij λf=>by simp only[iI];omega
end
def mw (l:List Sd.aF) (j:Nat):List ae:=let r:=l.getD j default
 [.int .i64 r.kind,.int .i64 r.seq,.int .i64 r.role,.int .i64 r.cX,.int .i64 r.ah,.int .i64 r.code,.int .u8 (r.aA 0),.int .u8 (r.aA 1),.int .u8 (r.aA 2),.int .u8 (r.aA 3),.int .u8 (r.aA 4),.int .u8 (r.aA 5),.int .u8 (r.aA 6),.int .u8 (r.aA 7)]
theorem axl (l:List Sd.aF):(bw l.length).flatMap (mw l)=l.flatMap λr=>ai [] (iF r):=by
 induction l with
 |nil=>rfl
 |cons r l ih=>
  rw[h_,vU,List.flatMap_cons,List.flatMap_map,List.flatMap_cons];have e:(λj=>mw (r::l) (Nat.succ j))=mw l:=by funext j;rfl
  rw[e,ih];rfl
theorem axm {ms:List Nat} {w0 w:ag} {z T n c:Nat} {olds:List ae} {x:Option aQ} {B R:List aj} {g:Nat->List ae} {o:Obj} {z0:Nat} (h:fu z T olds x n c B) (S:St ms w0 (B++R) w) {tg:aJ} {cs:List ae} (ho:o=.cells cs.toArray tg (0,0)) (lr:(⟨z0,false,o⟩:aj)∈R) (hg:olds=(bw n).flatMap g):
 ∃(i ty:Nat) (us:List ae),Value.slice x n c=.slice (bif az n 0 then x else some ⟨i,0,none⟩) n c/\St ms w0 (⟨i,false,.cells ((bw n).flatMap g++us).toArray ty (0,0)⟩::R) w:=by
 subst ho;rcases h.2.2 with⟨rfl,rfl,rfl,rfl⟩|⟨b,tail,rfl,rfl,_⟩
 ·exact⟨z0,tg,cs,rfl,by simpa using S.dup lr rfl⟩
 ·refine⟨b,T,tail,?_,?_⟩
  ·cases az n 0<;>rfl
  ·rw[<-hg];exact S.mf
def C4:dc (LG bN):=λargs bl ch K=>match args,ch with
 |[.gp i 0 n c x,.int .i64 k],.a_ u::.core g fB::rest=>(match bl[i]?with
  |some ⟨_,⟨_,(0,0)⟩,[.fP 2 n' G,.rest _]⟩=>cond (bM bl.length bl) (∃(s:List (Int×Sd.aF)) (fv:Nat->ue),(n=s.length/\n'=s.length/\G=mX s fv/\(∀y∈s,Sd.ow y)/\s.length<=1000/\lx bN s fv fB/\OS bl)/\
   ∀(rs:List Sd.aF),rs=Sd.dT s k->∀(x':Option aQ) (c' ty:Nat) (us:List ae),K (.gp bl.length 0 rs.length c' x') (bl++[⟨false,⟨ty,(0,0)⟩,[.fP 14 rs.length (mw rs),.rest us]⟩]) (.a_ u::.core g fB::rest)) False
  |_=>False)
 |_,_=>False
def Xj {G:Type}:(bh->V)->Op->List VB->List G->VK G->Prop:=λe op bl ch K=>match op with
 |.binOp .rem t x (.const (.int .i64 (.ofNat 3))) t2=>(match e x,e (.const (.int .i64 (.ofNat 3)))with
  |.int .i64 n,.int .i64 (.ofNat 3)=>0<=n/\cond (n.tmod 3==0) (K (.int .i64 0) bl ch) (cond (n.tmod 3==1) (K (.int .i64 1) bl ch) (K (.int .i64 2) bl ch))
  |_,_=>False)
 |_=>False
theorem axn {G:Type} [Bl G] {P:aL} {gl:Nat->Option Nat}:gv (G:=G) P gl Xj:=by
 intro e op ids bl ch R ms w0 w K ρ o hg hl S ba ho h;unfold Xj at h;split at h
 ·rename_i t x t2;split at h
  ·rename_i n hx hy;obtain⟨h0,h⟩:=h;have bQ:(execOp ρ o).run P w=.ok (.value (.int .i64 (n.tmod 3))) w:=by
    have hb:Gn P .rem t (e x) (e (.const (.int .i64 (.ofNat 3))))=some (.int .i64 (n.tmod (.ofNat 3))):=by rw[hx,hy];rfl
    unfold execOp;simp only[ho,ba];rw[bE,Qz hb];rfl
   have dL:=Int.tmod_lt_of_pos n (show(0:Int)<3 by decide);have eG:=Int.tmod_nonneg 3 h0;have go:∀m:Int,n.tmod 3=m->K (.int .i64 m) bl ch->∃x more bl' ch' w',((execOp ρ o).run P w=.ok (.value (den (ids++more) x)) w'\/((execOp ρ o).run P w=.ok .skip w'/\x=gu))/\(ids++more).length=bl'.length/\St ms w0 (lits (ids++more) (ids++more) bl'++aC ch' R) w'/\K x bl' ch':=λm hm hK=>⟨_,[],bl,ch,w,.inl (by rw[bQ,hm];simp[den]),by simpa using hl,by simpa using S,hK⟩;cases h1:n.tmod 3==0 with
   |true=>rw[h1]at h;exact go 0 (eq_of_beq h1) h
   |false=>
    rw[h1]at h;cases h2:n.tmod 3==1 with
    |true=>rw[h2]at h;exact go 1 (eq_of_beq h2) h
    |false=>
     rw[h2]at h;exact go 2 (by have:=beq_eq_false_iff_ne.1 h1;have:=beq_eq_false_iff_ne.1 h2;omega) h
  ·exact h.elim
 ·exact h.elim
end
end Go.Proofs.YtggfpcggakghnaaGreatDoor
